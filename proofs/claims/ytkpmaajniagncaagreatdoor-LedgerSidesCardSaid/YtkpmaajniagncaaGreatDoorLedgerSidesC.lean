/- LedgerSides: for every input the law answers true and leaves its arguments as they were. -/
import Derived.Test.YtkpmaajniagncaaGreatDoorLedgerSidesB
import Derived.Deep.AppendSrc
import Derived.Deep.MidRow
import Derived.Laws.OwnMore
set_option linter.unusedVariables false
set_option linter.unusedSimpArgs false
namespace Go.Sx
open Go Go.RowKit
section
variable {P:Program}
def Sz (P:Program)(e s:Nat):Prop:=(P.info? e).map (·.size)=some s
def Zr (P:Program)(e:Nat)(z:Value):Prop:=(P.info? e).bind (·.zero)=some z
def mY (P:Program)(t:Nat):Prop:=∃d,P.underlying t=some d/\(match d with | .struct _| .array _ _=>false|_=>true)=true
def ky (P:Program)(t s:Nat):Prop:=∃d,P.underlying t=some d/\(match d with | .struct _| .array _ _=>true|_=>false)=true/\Sz P t s
def El (P:Program)(e s b:Nat)(z:Value):Prop:=∃i,P.info? e=some i/\i.zero=some z/\i.size=s/\i.bytes=b/\z.cells.size=s/\0<s
variable {e s:Nat}
theorem El.sz {b:Nat}{z:Value}(h:El P e s b z):Sz P e s:=by obtain⟨i,hi,_,hs,_⟩:=h;simp[Sz,hi,hs]
theorem El.zr {b:Nat}{z:Value}(h:El P e s b z):Zr P e z:=by obtain⟨i,hi,hz,_⟩:=h;simp[Zr,hi,hz]
theorem El.mk {b:Nat}{z:Value}(h:(P.info? e).map (fun i=>(i.zero,i.size,i.bytes))=some (some z,s,b))(hz:z.cells.size=s)(hs:0<s):El P e s b z:=by
 cases hi:P.info? e with
 |none=>simp[hi]at h
 |some i=>simp[hi]at h;exact⟨i,hi,h.1,h.2.1,h.2.2,hz,hs⟩
theorem Sz.run (h:Sz P e s)(w:World):(sizeOf e).run P w= .ok s w:=by
 unfold Sz at h
 cases hi:P.info? e with
 |none=>simp[hi]at h
 |some i=>simp[hi]at h;simp[sizeOf,typeInfo,hi,h]
theorem Zr.run {z:Value}(h:Zr P e z)(w:World):(zeroValue e).run P w= .ok z w:=by
 unfold Zr at h
 cases hi:P.info? e with
 |none=>simp[hi]at h
 |some i=>simp[hi]at h;simp[zeroValue,typeInfo,hi,h]
variable {t:Nat}
theorem mY.run (h:mY P t)(w:World):(isAgg t).run P w= .ok false w:=by
 obtain⟨d,hd,hm⟩:=h
 cases d<;>simp_all [isAgg,run_underlying hd]
theorem ky.run (h:ky P t s)(w:World):(isAgg t).run P w= .ok true w:=by
 obtain⟨d,hd,hm,_⟩:=h
 cases d<;>simp_all [isAgg,run_underlying hd]
end
theorem add_block (a:Addr)(n:Nat):(a.add n).block=a.block:=by unfold Addr.add;split<;>rfl
theorem add_add (a:Addr)(i j:Nat):(a.add i).add j=a.add (i+j):=by
 unfold Addr.add
 by_cases hi:i=0<;>by_cases hj:j=0<;>simp[hi,hj,Nat.add_assoc]
theorem add_lit (g o j:Nat):(⟨g,o,none⟩:Addr).add j=⟨g,o+j,none⟩:=by unfold Addr.add;split<;>simp_all
def Sl (w:World)(s:Nat)(A:Option Addr)(n:Nat)(xs:List Value):Prop:=xs.length=n*s/\∀j u,xs[j]? =some u->∃ad,A=some ad/\w.cell? (ad.add j)=some u
def ik (w:World)(g:Nat)(t:TypeId)(cs:Array Value):Prop:=w.heap[g]? =some (.cells cs t (0,0))
def Own (w:World)(base:Nat)(e s:Nat)(A:Option Addr)(n c:Nat)(xs:List Value):Prop:=
 xs.length=n*s/\((n=0/\c=0)\/∃(g:Nat) (cur:Array Value),A=some ⟨g,0,none⟩/\base<=g/\w.heap[g]? =some (.cells cur e (0,0))/\n<=c/\c<=maxLen/\cur.size=c*s/\cur.toList.take (n*s)=xs)
def Ch (w w':World)(r:Option Nat):Prop:=w.grownBy w' r
def lN (A:Option Addr):Option Nat:=A.map (·.block)
def rowOf (A:Option Addr)(c:Nat):Option Nat:=if c=0 then none else lN A
def At (w:World)(A:Option Addr)(c:Nat)(A':Option Addr)(c':Nat):Prop:=∀g,rowOf A' c'=some g->rowOf A c=some g\/w.heap.size<=g
section
variable {w w' w0:World}
theorem Le.ch (h:Le w w')(r:Option Nat):Ch w w' r:=⟨h.os,h.tape,h.output,Below.size h,fun k hk _=>Below.block h k hk⟩
theorem Ch.refl (w:World)(r:Option Nat):Ch w w r:=⟨rfl,rfl,rfl,Nat.le_refl _,fun _ _ _=>rfl⟩
variable {w1 w2 w3:World}
theorem Ch.trans {r:Option Nat}(h:Ch w1 w2 r)(k:Ch w2 w3 r):Ch w1 w3 r:=
 ⟨k.os.trans h.os,k.tape.trans h.tape,k.output.trans h.output,Nat.le_trans h.size k.size,fun i hi hr=>(k.block i (Nat.lt_of_lt_of_le hi h.size) hr).trans (h.block i hi hr)⟩
theorem Ch.size {r:Option Nat}(h:Ch w w' r):w.heap.size<=w'.heap.size:=World.grownBy.size h
theorem Le.ja {r:Option Nat}(h:Le w0 w)(k:Ch w w' r)(hr:∀g,r=some g->w0.heap.size<=g):Le w0 w':=Below.grown h k h.size hr
theorem Ch.ja {r r':Option Nat}(h:Ch w1 w2 r)(k:Ch w2 w3 r')(hr:∀g,r'=some g->w1.heap.size<=g\/r=some g):Ch w1 w3 r:=
 ⟨k.os.trans h.os,k.tape.trans h.tape,k.output.trans h.output,Nat.le_trans h.size k.size,fun i hi hne=>
  (k.block i (Nat.lt_of_lt_of_le hi h.size) (fun he=>by
   rcases hr i he.symm with c|c
   ·omega
   ·exact hne c.symm)).trans (h.block i hi hne)⟩
variable {t:TypeId}
theorem ik.lt {g:Nat}{cs:Array Value}(h:ik w g t cs):g<w.heap.size:=by
 rcases Nat.lt_or_ge g w.heap.size with hlt|hge
 ·exact hlt
 ·unfold ik at h;rw[Array.getElem?_eq_none hge]at h;cases h
theorem ik.le {g:Nat}{cs:Array Value}(h:ik w g t cs)(hl:Le w w'):ik w' g t cs:=hl.block h
theorem ik.ch {g:Nat}{cs:Array Value}{r:Option Nat}(h:ik w g t cs)(hc:Ch w w' r)(hne:r≠some g):ik w' g t cs:=(hc.block g h.lt (Ne.symm hne)).trans h
theorem ik.cn {g:Nat}{cs:Array Value}{r:Nat}(h:ik w g t cs)(hc:Ch w w' (some r))(hne:r≠g):ik w' g t cs:=h.ch hc (fun e=>hne (Option.some.inj e))
theorem ik.cell {g:Nat}{cs:Array Value}(h:ik w g t cs)(i:Nat):w.cell? ⟨g,i,none⟩=cs[i]? :=cell_of_row w g i cs t (0,0) h
theorem ik.frozen {g:Nat}{cs:Array Value}(h:ik w g t cs)(i:Nat):w.frozen? ⟨g,i,none⟩=false:=frozen_of_row w g i cs t h
variable {s n:Nat}{A:Option Addr}{xs:List Value}
theorem Sl.le (h:Sl w s A n xs)(hl:Le w w'):Sl w' s A n xs:=
 ⟨h.1,fun j u hu=>let⟨ad,e,hc⟩:=h.2 j u hu;⟨ad,e,hl.cell hc⟩⟩
theorem Sl.ch {r:Option Nat}(h:Sl w s A n xs)(hc:Ch w w' r)(hne:∀g,r=some g->lN A≠some g):Sl w' s A n xs:=
 ⟨h.1,fun j u hu=>by
  obtain⟨ad,rfl,hcell⟩:=h.2 j u hu
  refine⟨ad,rfl,?_⟩
  have hb:=block_lt_of_cell hcell
  rw[add_block]at hb
  rw[<-hcell]
  refine World.cell?_of_block ?_
  rw[add_block]
  exact hc.block _ hb (fun he=>hne ad.block he.symm Z)⟩
theorem Sl.nil (w:World)(s:Nat)(A:Option Addr):Sl w s A 0 []:=⟨by simp,fun j u hu=>by simp at hu⟩
theorem Sl.isSome (h:Sl w s A n xs){j:Nat}(hj:j<n)(hs:0<s):A.isSome=true:=by
 have:0<xs.length:=by rw[h.1];exact Nat.mul_pos (by omega) hs
 obtain⟨ad,rfl,_⟩:=h.2 0 _ (List.getElem?_eq_getElem this)
 rfl
def mZ (A:Option Addr)(cap l s:Nat):Option Addr:=if cap=l then A else A.map (·.add (l*s))
theorem zN (A:Option Addr)(cap s:Nat):mZ A cap 0 s=A:=by
 unfold mZ
 split
 ·rfl
 ·cases A<;>simp[Addr.add]
theorem GQ (A:Option Addr)(cap l s:Nat):lN (mZ A cap l s)=lN A:=by
 unfold mZ lN
 split
 ·rfl
 ·cases A<;>simp[add_block]
theorem Sl.cut (h:Sl w s A n xs)(cap l m:Nat)(hl:l<=m)(hm:m<=n)(hc:n<=cap):
  Sl w s (mZ A cap l s) (m-l) ((xs.drop (l*s)).take ((m-l)*s)):=by
 refine⟨?_,fun j u hu=>?_⟩
 ·rw[List.length_take,List.length_drop,h.1,<-Nat.sub_mul]
  exact Nat.min_eq_left (Nat.mul_le_mul_right _ (by omega))
 ·rw[List.getElem?_take]at hu
  split at hu
  ·rename_i hlt
   rw[List.getElem?_drop]at hu
   obtain⟨ad,rfl,hcell⟩:=h.2 _ u hu
   have:l<m:=by
    rcases Nat.lt_or_ge l m with c|c
    ·exact c
    ·rw[show m-l=0 by omega,Nat.zero_mul]at hlt;omega
   unfold mZ
   rw[if_neg (by omega)]
   exact⟨_,rfl,by rw[add_add];exact hcell⟩
  ·cases hu
theorem Sl.yB (h:Sl w 1 A n xs)(cap l m:Nat)(hl:l<=m)(hm:m<=n)(hc:n<=cap):
 Sl w 1 (mZ A cap l 1) (m-l) ((xs.drop l).take (m-l)):=by simpa using h.cut cap l m hl hm hc
theorem ik.sl {g:Nat}{cs:Array Value}(h:ik w g t cs){s n:Nat}(hn:cs.size=n*s):Sl w s (Option.some ⟨g,0,none⟩) n cs.toList:=
 ⟨by simpa using hn,fun j u hu=>⟨_,rfl,by rw[add_lit,Nat.zero_add,h.cell];simpa using hu⟩⟩
theorem jI (A:Option Addr):rowOf A 0=none:=Z
theorem uO (g o c:Nat)(h:c≠0):rowOf (Option.some ⟨g,o,none⟩) c=Option.some g:=by simp[rowOf,h,lN]
variable {c:Nat}
theorem ru {g o k:Nat}(h:rowOf (Option.some ⟨g,o,none⟩) c=Option.some k):k=g:=by
 unfold rowOf at h
 split at h
 ·cases h
 ·simpa[lN,eq_comm]using h
variable {e:Nat}
theorem Own.sl {base:Nat}(h:Own w base e s A n c xs):Sl w s A n xs:=by
 refine⟨h.1,fun j u hu=>?_⟩
 rcases h.2 with⟨rfl,_⟩|⟨g,cur,rfl,hb,hg,hnc,hcm,hcs,htake⟩
 ·have:=h.1
  rw[Nat.zero_mul]at this
  rw[List.eq_nil_of_length_eq_zero this]at hu
  simp at hu
 ·refine⟨_,rfl,?_⟩
  rw[add_lit,Nat.zero_add,cell_of_row w g j cur e (0,0) hg]
  rw[<-htake,List.getElem?_take]at hu
  split at hu
  ·simpa using hu
  ·cases hu
theorem Own.empty (w:World)(base e s:Nat)(A:Option Addr):Own w base e s A 0 0 []:=⟨by simp,.inl ⟨rfl,rfl⟩⟩
theorem Own.len {base:Nat}(h:Own w base e s A n c xs):xs.length=n*s:=h.1
theorem Own.cap {base:Nat}(h:Own w base e s A n c xs):n<=c/\c<=maxLen:=by
 rcases h.2 with⟨rfl,rfl⟩|⟨g,cur,rfl,hb,hg,hnc,hcm,hcs,htake⟩
 ·exact⟨Nat.le_refl _,Nat.zero_le _⟩
 ·exact⟨hnc,hcm⟩
theorem Own.row {base:Nat}(h:Own w base e s A n c xs){g:Nat}(hg:rowOf A c=Option.some g):base<=g/\g<w.heap.size:=by
 rcases h.2 with⟨rfl,rfl⟩|⟨g',cur,rfl,hb,hh,hnc,hcm,hcs,htake⟩
 ·rw[jI]at hg;cases hg
 ·have:=ru hg
  subst this
  refine⟨hb,?_⟩
  rcases Nat.lt_or_ge g w.heap.size with h'|h'
  ·exact h'
  ·simp[Array.getElem?_eq_none h']at hh
theorem Own.ch {base:Nat}{r:Option Nat}(h:Own w base e s A n c xs)(hc:Ch w w' r)(hne:∀g,r=Option.some g->rowOf A c≠Option.some g):Own w' base e s A n c xs:=by
 refine⟨h.1,?_⟩
 rcases h.2 with d|⟨g,cur,rfl,hb,hg,hnc,hcm,hcs,htake⟩
 ·exact .inl d
 ·by_cases f:c=0
  ·left;omega
  ·refine .inr ⟨g,cur,rfl,hb,?_,hnc,hcm,hcs,htake⟩
   exact ik.ch (w:=w) hg hc (fun he=>hne g he (uO g 0 c f))
theorem Own.le {base:Nat}(h:Own w base e s A n c xs)(hl:Le w w'):Own w' base e s A n c xs:=h.ch (hl.ch none) (fun _ he=>by cases he)
theorem Own.mono {base base':Nat}(h:Own w base e s A n c xs)(hb:base'<=base):Own w base' e s A n c xs:=by
 refine⟨h.1,h.2.imp id ?_⟩
 rintro⟨g,cur,hv,hbg,hr⟩
 exact⟨g,cur,hv,Nat.le_trans hb hbg,hr⟩
theorem ik.own {g:Nat}{e:TypeId}{cs:Array Value}(h:ik w g e cs){base s n:Nat}(hb:base<=g)(hn:cs.size=n*s)(hm:n<=maxLen):Own w base e s (Option.some ⟨g,0,none⟩) n n cs.toList:=
 ⟨by simpa using hn,.inr ⟨g,cs,rfl,hb,h,Nat.le_refl _,hm,hn,List.take_of_length_le (by simp[hn])⟩⟩
theorem ik.aeH {g:Nat}{e:TypeId}{cs:Array Value}(h:ik w g e cs){base s n c:Nat}(hb:base<=g)(hnc:n<=c)(hn:cs.size=c*s)(hm:c<=maxLen):Own w base e s (Option.some ⟨g,0,none⟩) n c (cs.toList.take (n*s)):=
 ⟨by rw[List.length_take,Array.length_toList,hn];exact Nat.min_eq_left (Nat.mul_le_mul_right _ hnc),.inr ⟨g,cs,rfl,hb,h,hnc,hm,hn,rfl⟩⟩
theorem Own.front {base:Nat}(h:Own w base e s A n c xs)(m:Nat)(hm:m<=n):Own w base e s A m c (xs.take (m*s)):=by
 have hlen:(xs.take (m*s)).length=m*s:=by rw[List.length_take,h.1];exact Nat.min_eq_left (Nat.mul_le_mul_right _ hm)
 refine⟨hlen,?_⟩
 rcases h.2 with⟨rfl,rfl⟩|⟨g,cur,rfl,hb,hg,hnc,hcm,hcs,htake⟩
 ·exact .inl ⟨by omega,rfl⟩
 ·refine .inr ⟨g,cur,rfl,hb,hg,by omega,hcm,hcs,?_⟩
  rw[<-htake,List.take_take,Nat.min_eq_left (Nat.mul_le_mul_right _ hm)]
variable {m:Nat}
theorem Own.block {base:Nat}{gb:Nat}(h:Own w base e s (Option.some ⟨gb,0,none⟩) m c xs)(hm:0<m):∃cur:Array Value,ik w gb e cur/\cur.size=c*s/\cur.toList.take (m*s)=xs:=by
 rcases h.2 with⟨rfl,_⟩|⟨g',cur,hv,hb,hg,hnc,hcm,hcs,htake⟩
 ·omega
 ·injection hv with hA
  injection hA with hA
  subst hA
  exact⟨cur,hg,hcs,htake⟩
theorem Own.lit {base:Nat}(h:Own w base e s A m c xs)(hm:0<m):∃g,A=Option.some ⟨g,0,none⟩/\base<=g/\g<w.heap.size/\rowOf A c=Option.some g:=by
 rcases h.2 with⟨rfl,_⟩|⟨g,cur,rfl,hb,hg,hnc,hcm,hcs,htake⟩
 ·omega
 ·exact⟨g,rfl,hb,ik.lt (w:=w) hg,uO g 0 c (by omega)⟩
theorem Own.set {base:Nat}{g:Nat}(h:Own w base e 1 (Option.some ⟨g,0,none⟩) n c xs)(j:Nat)(hj:j<n)(u:Value):
  Own (w.setCell ⟨g,j,none⟩ u) base e 1 (Option.some ⟨g,0,none⟩) n c (xs.set j u):=by
 rcases h.2 with⟨rfl,_⟩|⟨g',cur,hv,hb,hg,hnc,hcm,hcs,htake⟩
 ·omega
 ·injection hv with hA
  injection hA with hA
  subst hA
  refine⟨by simpa using h.1,.inr ⟨g,cur.setIfInBounds j u,rfl,hb,heap_setCell_same w g j cur e u hg,hnc,hcm,by simpa using hcs,?_⟩⟩
  rw[Array.toList_setIfInBounds,List.take_set,htake]
theorem At.refl (w:World)(A:Option Addr)(c:Nat):At w A c A c:=fun _ h=> .inl h
variable {A':Option Addr}{c':Nat}
theorem At.off {g:Nat}(h:At w A c A' c')(hg:g<w.heap.size)(hne:rowOf A c≠Option.some g):rowOf A' c'≠Option.some g:=fun he=>by
 rcases h g he with d|d
 ·exact hne d
 ·omega
theorem At.trans {B C:Option Addr}{a b:Nat}(h:At w1 A a B b)(hs:w1.heap.size<=w2.heap.size)(k:At w2 B b C c):At w1 A a C c:=fun g hg=>by
 rcases k g hg with d|d
 ·exact h g d
 ·exact .inr (Nat.le_trans hs d)
theorem At.none (h:At w A 0 A' c'){g:Nat}(hg:rowOf A' c'=Option.some g):w.heap.size<=g:=by
 rcases h g hg with c|c
 ·rw[jI]at c;cases c
 ·exact c
theorem Ch.setCell (w:World)(g j:Nat)(u:Value):Ch w (w.setCell ⟨g,j,none⟩ u) (Option.some g):=
 ⟨rfl,rfl,rfl,by simp[World.setCell],fun k _ hk=>heap_setCell_other w ⟨g,j,none⟩ k u (fun e=>hk (by rw[e]))⟩
theorem ik.set {g:Nat}{cs:Array Value}(h:ik w g t cs)(j:Nat)(u:Value):ik (w.setCell ⟨g,j,none⟩ u) g t (cs.setIfInBounds j u):=heap_setCell_same w g j cs t u h
theorem Le.alloc (w:World)(o:Obj):Le w (w.alloc o):=(Below.refl _ _).alloc (Nat.le_refl _) o
theorem ik.new (w:World)(t:TypeId)(cs:Array Value):ik (w.alloc (.cells cs t)) w.heap.size t cs:=heap_alloc_new w _
end
section
variable {P:Program}{env:Env}{n:Nat}{d:Option Nat}{T:TypeId}{p:String}{af:Array Edge}{g:Option (Nat×Bool)}{x:Operand}{v:Value}
theorem Any.move (hx:ev env x=some v):Any P env n ⟨d,.move x,T,p,af,g⟩ v:=fun a ha w=>by
 simp[execOp,ha.eval hx]
theorem Any.assign (hx:ev env x=some v):Any P env n ⟨d,.assign x,T,p,af,g⟩ v:=fun a ha w=>by
 simp[execOp,ha.eval hx]
variable {y:Operand}
theorem Any.BJ {c:Operand}{b:Bool}(hc:ev env c=some (.bool b))(hb:b=true)(hx:ev env x=some v):Any P env n ⟨d,.pick c x y,T,p,af,g⟩ v:=fun a ha w=>by
 simp[execOp,ha.eval hc,hb,ha.eval hx,asBool]
theorem Any.AU {c:Operand}{b:Bool}(hc:ev env c=some (.bool b))(hb:b=false)(hy:ev env y=some v):Any P env n ⟨d,.pick c x y,T,p,af,g⟩ v:=fun a ha w=>by
 simp[execOp,ha.eval hc,hb,ha.eval hy,asBool]
variable {ad:Addr}
theorem Any.nilCheck (hx:ev env x=some (.pointer (some ad))):Any P env n ⟨d,.nilCheck x,T,p,af,g⟩ (.pointer (some ad)):=fun a ha w=>by
 simp[execOp,ha.eval hx]
theorem Any.extract {vs:Array Value}{i:Nat}(hx:ev env x=some (.tuple vs))(hi:vs[i]? =some v):Any P env n ⟨d,.extract x i,T,p,af,g⟩ v:=fun a ha w=>by
 simp[execOp,ha.eval hx,Instr.extract,hi]
variable {op:BinOp}{t ty:TypeId}
theorem Any.bin {a b r:Value}(hx:ev env x=some a)(hy:ev env y=some b)(hq:∀w,(eqGuard op t x y a b).run P w= .ok () w)
  (hr:∀w,(binOp op t a b).run P w= .ok r w):Any P env n ⟨d,.binOp op t x y ty,T,p,af,g⟩ r:=fun ac ha w=>by
 simp[execOp,ha.eval hx,ha.eval hy,hq,hr]
variable {k k':IntKind}
theorem Any.int {a b:Int}{r:Value}(hx:ev env x=some (.int k a))(hy:ev env y=some (.int k' b))
  (hr:∀w,(binOp op t (.int k a) (.int k' b)).run P w= .ok r w):Any P env n ⟨d,.binOp op t x y ty,T,p,af,g⟩ r:=
 .bin hx hy (fun w=>by cases op<;>rfl) hr
theorem Any.add {a b:Int}(hx:ev env x=some (J a))(hy:ev env y=some (J b))(hb: -9223372036854775808<=a+b/\a+b<=9223372036854775807):
 Any P env n ⟨d,.binOp .add t x y ty,T,p,af,g⟩ (J (a+b)):= .int hx hy fun w=>by simp[binOp,Op.intArith,IntWalk.i64_in _ hb]
theorem Any.sub {a b:Int}(hx:ev env x=some (J a))(hy:ev env y=some (J b))(hb: -9223372036854775808<=a-b/\a-b<=9223372036854775807):
 Any P env n ⟨d,.binOp .sub t x y ty,T,p,af,g⟩ (J (a-b)):= .int hx hy fun w=>by simp[binOp,Op.intArith,IntWalk.i64_in _ hb]
theorem Any.mul {a b:Int}(hx:ev env x=some (J a))(hy:ev env y=some (J b))(hb: -9223372036854775808<=a*b/\a*b<=9223372036854775807):
 Any P env n ⟨d,.binOp .mul t x y ty,T,p,af,g⟩ (J (a*b)):= .int hx hy fun w=>by simp[binOp,Op.intArith,IntWalk.i64_in _ hb]
theorem Any.quo {a b:Int}(hx:ev env x=some (J a))(hy:ev env y=some (J b))(hb:0<=a/\a<=9223372036854775807/\1<=b):
  Any P env n ⟨d,.binOp .quo t x y ty,T,p,af,g⟩ (J (a/b)):= .int hx hy fun w=>by
 have:b≠0:=by omega
 simp[binOp,Op.intDiv,this,IntWalk.i64_quo _ _ hb]
theorem Any.rem {a b:Int}(hx:ev env x=some (J a))(hy:ev env y=some (J b))(hb:0<=a/\1<=b):
  Any P env n ⟨d,.binOp .rem t x y ty,T,p,af,g⟩ (J (a%b)):= .int hx hy fun w=>by
 have:b≠0:=by omega
 simp[binOp,Op.intDiv,this,IntWalk.rem_in _ b hb.1]
theorem Any.lss {a b:Int}(hx:ev env x=some (.int k a))(hy:ev env y=some (.int k b)):Any P env n ⟨d,.binOp .lss t x y ty,T,p,af,g⟩ (.bool (decide (a<b))):=
 .int hx hy fun w=>by simp[binOp,Op.intCmp]
theorem Any.leq {a b:Int}(hx:ev env x=some (.int k a))(hy:ev env y=some (.int k b)):Any P env n ⟨d,.binOp .leq t x y ty,T,p,af,g⟩ (.bool (decide (a<=b))):=
 .int hx hy fun w=>by simp[binOp,Op.intCmp]
theorem Any.gtr {a b:Int}(hx:ev env x=some (.int k a))(hy:ev env y=some (.int k b)):Any P env n ⟨d,.binOp .gtr t x y ty,T,p,af,g⟩ (.bool (decide (b<a))):=
 .int hx hy fun w=>by simp[binOp,Op.intCmp]
theorem Any.geq {a b:Int}(hx:ev env x=some (.int k a))(hy:ev env y=some (.int k b)):Any P env n ⟨d,.binOp .geq t x y ty,T,p,af,g⟩ (.bool (decide (b<=a))):=
 .int hx hy fun w=>by simp[binOp,Op.intCmp]
theorem Any.eql {a b:Int}(hx:ev env x=some (.int k a))(hy:ev env y=some (.int k b)):Any P env n ⟨d,.binOp .eql t x y ty,T,p,af,g⟩ (.bool (decide (a=b))):=
 .int hx hy fun w=>by simp[binOp,Op.intCmp,BEq.beq]
theorem Any.neq {a b:Int}(hx:ev env x=some (.int k a))(hy:ev env y=some (.int k b)):Any P env n ⟨d,.binOp .neq t x y ty,T,p,af,g⟩ (.bool (decide (a≠b))):=
 .int hx hy fun w=>by simp[binOp,Op.intCmp,bne,BEq.beq]
theorem Any.not {b:Bool}(hx:ev env x=some (.bool b)):Any P env n ⟨d,.unOp .not t x,T,p,af,g⟩ (.bool (!b)):=fun a ha w=>by
 simp[execOp,ha.eval hx,Op.unary]
def ptr (A:Option Addr)(j:Nat):Value:= .pointer (A.map (·.add j))
variable {e:TypeId}{A:Option Addr}{i:Int}
theorem Any.MO {s:TypeId}{len cap:Nat}(j:Nat)(ht:P.underlying t=some (.slice e))(hs:Sz P e s)(hx:ev env x=some (.slice A len cap))(hy:ev env y=some (.int k i))
  (hA:A.isSome=true)(hi:i=(j:Int))(hj:j<len):Any P env n ⟨d,.indexAddr t x y,T,p,af,g⟩ (ptr A (j*s)):=fun a ha w=>by
 obtain⟨ad,rfl⟩:=Option.isSome_iff_exists.1 hA
 subst hi
 simp[execOp,ha.eval hx,ha.eval hy,Instr.indexAt,run_underlying ht,asIntOf,hs.run,ptr,hj]
variable {gb o:Nat}
theorem Any.ac3 {s:TypeId}{len cap:Nat}(j:Nat)(ht:P.underlying t=some (.slice e))(hs:Sz P e s)(hx:ev env x=some (.slice (some ⟨gb,o,none⟩) len cap))(hy:ev env y=some (.int k i))
  (hi:i=(j:Int))(hj:j<len):Any P env n ⟨d,.indexAddr t x y,T,p,af,g⟩ (.pointer (some ⟨gb,o+j*s,none⟩)):=fun a ha w=>by
 subst hi
 simp[execOp,ha.eval hx,ha.eval hy,Instr.indexAt,run_underlying ht,asIntOf,hs.run,hj,add_lit]
variable {s:Nat}
theorem Any.ac4 {t e len:Nat}(j:Nat)(ht:P.underlying t=some (.array len e))(hs:Sz P e s)(hx:ev env x=some (.pointer (some ⟨gb,o,none⟩)))(hy:ev env y=some (.int k i))
  (hi:i=(j:Int))(hj:j<len):Any P env n ⟨d,.indexAddr t x y,T,p,af,g⟩ (.pointer (some ⟨gb,o+j*s,none⟩)):=fun a ha w=>by
 subst hi
 simp[execOp,ha.eval hx,ha.eval hy,Instr.indexAt,run_underlying ht,asIntOf,Instr.sureAddr,hs.run,hj,add_lit]
theorem yQ {s:TypeId}{len cap:Nat}(l m:Nat){lo hi:Option Value}(ht:P.underlying t=some (.slice e))(hs:Sz P e s)
  (hlo:(lo=none/\l=0)\/∃k i,lo=some (.int k i)/\i=(l:Int))(hhi:(hi=none/\m=len)\/∃k i,hi=some (.int k i)/\i=(m:Int))(h1:l<=m)(h2:m<=cap)(w:World):
  (Instr.sliceAt t (.slice A len cap) lo hi none).run P w= .ok (.slice (mZ A cap l s) (m-l) (cap-l)) w:=by
 rcases hlo with⟨rfl,rfl⟩|⟨k,i,rfl,rfl⟩<;>rcases hhi with⟨rfl,rfl⟩|⟨k',i',rfl,rfl⟩<;>
  simp[Instr.sliceAt,Instr.slice,Instr.sliceBounds,Instr.sliceBound,asIntOf,run_underlying ht,hs.run,mZ,h1,h2]
theorem Any.cut {s:TypeId}{len cap:Nat}(l m:Nat){lo hi:Operand}{k k':IntKind}{i i':Int}(ht:P.underlying t=some (.slice e))(hs:Sz P e s)(hx:ev env x=some (.slice A len cap))
  (hlo:ev env lo=some (.int k i))(hl:i=(l:Int))(hhi:ev env hi=some (.int k' i'))(hm:i'=(m:Int))(h1:l<=m)(h2:m<=cap):
  Any P env n ⟨d,.slice t x (some lo) (some hi) none,T,p,af,g⟩ (.slice (mZ A cap l s) (m-l) (cap-l)):=fun a ha w=>by
 simp[execOp,ha.eval hx,ha.eval hlo,ha.eval hhi,yQ l m ht hs (.inr ⟨k,i,rfl,hl⟩) (.inr ⟨k',i',rfl,hm⟩) h1 h2]
theorem Any.uP {s:TypeId}{len cap:Nat}(l:Nat){lo:Operand}{k:IntKind}{i:Int}(ht:P.underlying t=some (.slice e))(hs:Sz P e s)(hx:ev env x=some (.slice A len cap))
  (hlo:ev env lo=some (.int k i))(hl:i=(l:Int))(h1:l<=len)(h2:len<=cap):
  Any P env n ⟨d,.slice t x (some lo) none none,T,p,af,g⟩ (.slice (mZ A cap l s) (len-l) (cap-l)):=fun a ha w=>by
 simp[execOp,ha.eval hx,ha.eval hlo,yQ l len ht hs (.inr ⟨k,i,rfl,hl⟩) (.inl ⟨rfl,rfl⟩) h1 h2]
theorem Any.Fy {s:TypeId}{len cap:Nat}(m:Nat){hi:Operand}{k:IntKind}{i:Int}(ht:P.underlying t=some (.slice e))(hs:Sz P e s)(hx:ev env x=some (.slice A len cap))
  (hhi:ev env hi=some (.int k i))(hm:i=(m:Int))(h2:m<=cap):
  Any P env n ⟨d,.slice t x none (some hi) none,T,p,af,g⟩ (.slice A m cap):=fun a ha w=>by
 have:=yQ (A:=A) (len:=len) 0 m ht hs (.inl ⟨rfl,rfl⟩) (.inr ⟨k,i,rfl,hm⟩) (Nat.zero_le _) h2 w
 rw[zN,Nat.sub_zero,Nat.sub_zero]at this
 simp[execOp,ha.eval hx,ha.eval hhi,this]
theorem KV {t e len:Nat}(l m:Nat){lo hi:Option Value}(ht:P.underlying t=some (.array len e))(hs:Sz P e s)
  (hlo:(lo=none/\l=0)\/∃k i,lo=some (.int k i)/\i=(l:Int))(hhi:(hi=none/\m=len)\/∃k i,hi=some (.int k i)/\i=(m:Int))(h1:l<=m)(h2:m<=len)(w:World):
  (Instr.sliceAt t (.pointer (some ⟨gb,0,none⟩)) lo hi none).run P w= .ok (.slice (mZ (some ⟨gb,0,none⟩) len l s) (m-l) (len-l)) w:=by
 rcases hlo with⟨rfl,rfl⟩|⟨k,i,rfl,rfl⟩<;>rcases hhi with⟨rfl,rfl⟩|⟨k',i',rfl,rfl⟩<;>
  (simp[Instr.sliceAt,Instr.sureAddr,Instr.sliceBounds,Instr.sliceBound,asIntOf,run_underlying ht,hs.run,mZ,h1,h2]<;>try (split<;>rfl))
theorem Any.Be {t e len:Nat}(ht:P.underlying t=some (.array len e))(hs:Sz P e s)(hx:ev env x=some (.pointer (some ⟨gb,0,none⟩))):
  Any P env n ⟨d,.slice t x none none none,T,p,af,g⟩ (.slice (some ⟨gb,0,none⟩) len len):=fun a ha w=>by
 have:=KV (gb:=gb) 0 len ht hs (.inl ⟨rfl,rfl⟩) (.inl ⟨rfl,rfl⟩) (Nat.zero_le _) (Nat.le_refl _) w
 rw[zN,Nat.sub_zero]at this
 simp[execOp,ha.eval hx,this]
variable {vs:List Value}
theorem Any.makeFunc {BK:Nat}{tL:Array Operand}(hc:evs env tL.toList=some vs):Any P env n ⟨d,.makeFunc (.func BK) #[] tL,T,p,af,g⟩ (.func (.func BK) #[] vs.toArray):=fun a ha w=>by
 have:tL.map a.eval=vs.toArray:=by rw[<-ha.QT hc];apply Array.ext';simp
 simp[execOp,Instr.makeFunc,this]
variable {w:World}
theorem Rd.len {len cap:Nat}(ht:P.underlying t=some (.slice e))(hx:ev env x=some (.slice A len cap)):
  Rd P w env n ⟨d,.call ⟨.builtin .len,#[x],#[t]⟩,T,p,af,g⟩ (J len):=fun a ha w' _=>by
 simp[execOp,resolve,invoke,builtin,Builtin.len_,ha.eval hx,run_underlying ht,goInt]
theorem Rd.VS {s:ByteArray}(ht:P.underlying t=some .string)(hx:ev env x=some (.string s)):
  Rd P w env n ⟨d,.call ⟨.builtin .len,#[x],#[t]⟩,T,p,af,g⟩ (J s.size):=fun a ha w' _=>by
 simp[execOp,resolve,invoke,builtin,Builtin.len_,ha.eval hx,run_underlying ht,goInt]
theorem Rd.load (hu:mY P t)(hx:ev env x=some (.pointer (some ad)))(hc:w.cell? ad=some v):
  Rd P w env n ⟨d,.load t x,T,p,af,g⟩ v:=fun a ha w' hl=>by
 simp[execOp,ha.eval hx,Instr.loadAt,Instr.sureAddr,loadVar,hu.run,hl.cell hc]
variable {m j:Nat}{xs:List Value}
theorem Rd.j3 (hu:mY P t)(hx:ev env x=some (ptr A j))(hS:Sl w s A m xs)(hj:xs[j]? =some v):
  Rd P w env n ⟨d,.load t x,T,p,af,g⟩ v:=by
 obtain⟨ad,rfl,hc⟩:=hS.2 j v hj
 exact .load hu hx hc
theorem Rd.ES {tb:TypeId}{cs:Array Value}(hu:mY P t)(hx:ev env x=some (.pointer (some ⟨gb,j,none⟩)))(hB:ik w gb tb cs)(hj:cs[j]? =some v):
 Rd P w env n ⟨d,.load t x,T,p,af,g⟩ v:= .load hu hx ((hB.cell j).trans hj)
theorem Rd.jM {sz:TypeId}{tb:TypeId}{cs:Array Value}(hu:ky P t sz)(hsz:cs.size=sz)(hx:ev env x=some (.pointer (some ⟨gb,0,none⟩)))(hB:ik w gb tb cs):
  Rd P w env n ⟨d,.load t x,T,p,af,g⟩ (.agg cs):=fun a ha w' hl=>by
 subst hsz
 obtain⟨dd,c,f,e⟩:=hu
 have hr:=run_loadVar_row (P:=P) w' gb tb t cs (0,0) dd (hB.le hl) c (by cases dd<;>simp_all) e
 simp[execOp,ha.eval hx,Instr.loadAt,Instr.sureAddr,hr]
theorem Rd.Pv (cs:List Value)(hu:ky P t cs.length)(hx:ev env x=some (ptr A j))(hS:Sl w s A m xs)
  (hj:∀i u,cs[i]? =some u->xs[j+i]? =some u)(hp:0<cs.length):
  Rd P w env n ⟨d,.load t x,T,p,af,g⟩ (.agg cs.toArray):=fun a ha w' hl=>by
 obtain⟨dd,e,f,c⟩:=hu
 obtain⟨ad,rfl,_⟩:=hS.2 j _ (by have:=hj 0 _ (List.getElem?_eq_getElem hp);simpa using this)
 have hl':(loadCells (ad.add j) cs.length).run P w'= .ok cs.toArray w':=run_loadCells_list (P:=P) w' (ad.add j) cs (fun i v hv=>by
  rw[add_add]
  obtain⟨ad',he,hc⟩:=hS.2 (j+i) v (hj i v hv)
  injection he with he
  subst he
  exact hl.cell hc)
 have hag:(isAgg t).run P w'= .ok true w':=ky.run ⟨dd,e,f,c⟩ w'
 simp[execOp,ha.eval hx,ptr,Instr.loadAt,Instr.sureAddr,loadVar,hag,Sz.run c,hl']
theorem Rd.aeI {s:TypeId}(hs:(P.underlying s).isSome=true)(ht:P.underlying t=some (.int k'))(hx:ev env x=some (.int k i)):
  Rd P w env n ⟨d,.convert s t x,T,p,af,g⟩ (.int k' (k'.wrap i)):=fun a ha w' _=>by
 obtain⟨dd,hd⟩:=Option.isSome_iff_exists.1 hs
 simp[execOp,ha.eval hx,convert,run_underlying hd,run_underlying ht,Conv.intToInt]
variable {i':Int}
theorem Rd.vW {s:TypeId}(hs:(P.underlying s).isSome=true)(ht:P.underlying t=some (.int k'))(hx:ev env x=some (.int k i))(h:k'.wrap i=i'):
 Rd P w env n ⟨d,.convert s t x,T,p,af,g⟩ (.int k' i'):=h▸Rd.aeI hs ht hx
variable {K:Value->World->Prop}
def o8 (P:Program)(f:FuncId):Prop:=∃fn,P.funcs[f]? =some fn/\fn.body.isNone=false/\(fn.name== "runtime.NumGoroutine")=false
theorem o8.run {f:FuncId}(h:o8 P f)(args:Array Value)(w:World):(callFunc f args).run P w= .ok (.enter f args) w:=by
 obtain⟨fn,d,c,e⟩:=h
 have h3':fn.name≠ "runtime.NumGoroutine" :=by simpa using e
 have h2':fn.body≠none:=fun hn=>by rw[hn]at c;cases c
 simp[callFunc,program,Sem.run,d,h2',h3']
variable {f:Operand}{BK:FuncId}{args:Array Operand}{ats:Array TypeId}{R:Ending->World->Prop}
theorem Ef.call (hgo:o8 P BK)(hf:ev env f=some (.func (.func BK) #[] #[]))(ha:evs env args.toList=some vs)
  (hc:Calls P BK vs.toArray w R)(h:∀e w',R e w'->∃v,e= .returned v/\K v w'):Ef P env n ⟨d,.call ⟨.value f,args,ats⟩,T,p,af,g⟩ w K:=fun a hr=>by
 have hargs:args.map a.eval=vs.toArray:=by rw[<-hr.QT ha];apply Array.ext';simp
 unfold Oper.wp
 have:(execOp a.eval ⟨d,.call ⟨.value f,args,ats⟩,T,p,af,g⟩).run P w= .ok (.enter BK vs.toArray) w:=by
  simp[execOp,resolve,Deferred.ofValue,hr.eval hf,invoke,hargs,hgo.run]
 rw[this,Oper.upon_enter]
 refine hc.mono fun e w' he=>?_
 obtain⟨v,rfl,hk⟩:=h e w' he
 exact⟨v,rfl,hk⟩
theorem Ef.aeJ {tL:Array Value}(hgo:o8 P BK)(hf:ev env f=some (.func (.func BK) #[] tL))(ha:evs env args.toList=some vs)
  (hc:Calls P BK (vs.toArray++tL) w R)(h:∀e w',R e w'->∃v,e= .returned v/\K v w'):Ef P env n ⟨d,.call ⟨.value f,args,ats⟩,T,p,af,g⟩ w K:=fun a hr=>by
 have hargs:args.map a.eval=vs.toArray:=by rw[<-hr.QT ha];apply Array.ext';simp
 unfold Oper.wp
 have:(execOp a.eval ⟨d,.call ⟨.value f,args,ats⟩,T,p,af,g⟩).run P w= .ok (.enter BK (vs.toArray++tL)) w:=by
  simp[execOp,resolve,Deferred.ofValue,hr.eval hf,invoke,hargs,hgo.run]
 rw[this,Oper.upon_enter]
 refine hc.mono fun e w' he=>?_
 obtain⟨v,rfl,hk⟩:=h e w' he
 exact⟨v,rfl,hk⟩
variable {w':World}
theorem Ef.of_run {o:Oper}(hrun:∀a,sM a n env->(execOp a.eval o).run P w= .ok (.value v) w')(h:K v w'):Ef P env n o w K:=fun a ha=>by
 unfold Oper.wp
 rw[hrun a ha,Oper.upon_value]
 exact⟨v,rfl,h⟩
theorem Ef.rR {o:Oper}(hrun:∀a,sM a n env->(execOp a.eval o).run P w= .ok .skip w')(h:K undef w'):Ef P env n o w K:=fun a ha=>by
 unfold Oper.wp
 rw[hrun a ha,Oper.upon_skip]
 exact⟨undef,rfl,h⟩
theorem Ef.alloc {z:Value}(hz:Zr P t z)(h:∀gb w',w.heap.size<=gb->ik w' gb t z.cells->Le w w'->K (.pointer (some ⟨gb,0,none⟩)) w'):Ef P env n ⟨d,.alloc t,T,p,af,g⟩ w K:=
 .of_run (v:= .pointer (some ⟨w.heap.size,0,none⟩)) (w':=w.alloc (.cells z.cells t)) (fun a ha=>by
  simp[execOp,Instr.alloc,hz.run,newVar,newRow]) (h _ _ (Nat.le_refl _) (ik.new w t _) (Le.alloc w _))
theorem Ef.box (hx:ev env x=some v)(h:∀gb w',w.heap.size<=gb->ik w' gb t v.cells->Le w w'->K (.pointer (some ⟨gb,0,none⟩)) w'):Ef P env n ⟨d,.box t x,T,p,af,g⟩ w K:=
 .of_run (v:= .pointer (some ⟨w.heap.size,0,none⟩)) (w':=w.alloc (.cells v.cells t)) (fun a ha=>by
  simp[execOp,Instr.box,ha.eval hx,newVar,newRow]) (h _ _ (Nat.le_refl _) (ik.new w t _) (Le.alloc w _))
theorem Ef.pR {cs:Array Value}(hz:Zr P t (.agg cs))(h:∀gb w',w.heap.size<=gb->ik w' gb t cs->Le w w'->K (.pointer (some ⟨gb,0,none⟩)) w'):Ef P env n ⟨d,.alloc t,T,p,af,g⟩ w K:=Ef.alloc hz h
theorem Ef.Tn {cs:Array Value}(hx:ev env x=some (.agg cs))(h:∀gb w',w.heap.size<=gb->ik w' gb t cs->Le w w'->K (.pointer (some ⟨gb,0,none⟩)) w'):Ef P env n ⟨d,.box t x,T,p,af,g⟩ w K:=Ef.box hx h
theorem vX {tb:TypeId}{cs:Array Value}(hs:Sz P t 1)(hB:ik w gb tb cs)(hj:j<cs.size)(hv:v.oneCell'=true):
  (storeVar t ⟨gb,j,none⟩ v).run P w= .ok () (w.setCell ⟨gb,j,none⟩ v):=by
 have hc:v.cells=#[v]:=by cases v<;>first|rfl|cases hv
 have hcell:w.cell? ⟨gb,j,none⟩=some cs[j]:=by rw[hB.cell];simp[hj]
 simp[storeVar,hs.run,hc,storeCells,Addr.add,run_store P w _ v _ hv,hcell,hB.frozen]
theorem Ef.store {tb:TypeId}{cs:Array Value}(hs:Sz P t 1)(hx:ev env x=some (.pointer (some ⟨gb,j,none⟩)))(hy:ev env y=some v)(hB:ik w gb tb cs)(hj:j<cs.size)
  (hv:v.oneCell'=true)(h:∀w',ik w' gb tb (cs.setIfInBounds j v)->Ch w w' (some gb)->K undef w'):Ef P env n ⟨d,.store t x y,T,p,af,g⟩ w K:=
 .rR (fun a ha=>by simp[execOp,ha.eval hx,ha.eval hy,Instr.storeAt,Instr.sureAddr,vX hs hB hj hv]) (h _ (hB.set j v) (Ch.setCell w gb j v))
variable {c:Nat}
theorem Ef.ac5 {base e:Nat}(hs:Sz P t 1)(hx:ev env x=some (.pointer (some ⟨gb,j,none⟩)))(hy:ev env y=some v)(hO:Own w base e 1 (some ⟨gb,0,none⟩) m c xs)(hj:j<m)
  (hv:v.oneCell'=true)(h:∀w',Own w' base e 1 (some ⟨gb,0,none⟩) m c (xs.set j v)->Ch w w' (some gb)->K undef w'):Ef P env n ⟨d,.store t x y,T,p,af,g⟩ w K:=by
 obtain⟨cur,hB,hcs,_⟩:=hO.block (by omega)
 have hc:=hO.cap
 have hr:=vX (P:=P) hs hB (j:=j) (by rw[hcs];omega) hv
 exact .rR (fun a ha=>by simp[execOp,ha.eval hx,ha.eval hy,Instr.storeAt,Instr.sureAddr,hr]) (h _ (hO.set j hj v) (Ch.setCell w gb j v))
theorem Ef.storeAll {sz:TypeId}{tb:TypeId}{cs vs:Array Value}(hs:Sz P t sz)(hsz:vs.size=sz)(hx:ev env x=some (.pointer (some ⟨gb,0,none⟩)))(hy:ev env y=some (.agg vs))(hB:ik w gb tb cs)(hl:cs.size=vs.size)
  (hv:∀v∈vs.toList,v.oneCell'=true)(h:∀w',ik w' gb tb vs->Ch w w' (some gb)->K undef w'):Ef P env n ⟨d,.store t x y,T,p,af,g⟩ w K:=
 .rR (w':=w.setRow gb vs) (fun a ha=>by
  subst hsz
  have hst:=run_storeCells_at P gb 0 tb vs.toList 0 cs w hB (by simp[hl]) hv
  have e1:(cs.toList.take (0+0)++vs.toList++cs.toList.drop (0+0+vs.toList.length)).toArray=vs:=by
   rw[List.drop_of_length_le (by simp[hl])];simp
  rw[e1]at hst
  simp[execOp,ha.eval hx,ha.eval hy,Instr.storeAt,Instr.sureAddr,storeVar,hs.run,Value.cells,hst])
  (h _ (setRow_heap w gb cs vs tb (0,0) hB) ⟨rfl,rfl,rfl,by simp,fun k _ hk=>setRow_other w gb k vs (fun e=>hk (by simp[e]))⟩)
theorem Sl.src (h:Sl w s A m xs)(ht:P.underlying t=some (.slice e))(hs:0<s)(c:Nat)(h1:∀u∈xs,u.oneCell'=true):Src P s t (.slice A m c) m xs w:=by
 cases A with
 |none=>
  have hm:xs=[]:=by
   cases xs with
   |nil=>rfl
   |cons u us=>obtain⟨_,he,_⟩:=h.2 0 u Z;cases he
  subst hm
  have:m=0:=by
   have f:m*s=0:=h.1.symm
   rcases Nat.mul_eq_zero.1 f with d|d
   ·exact d
   ·omega
  subst this
  exact Src.ofNil w ht c
 |some ad=>exact Src.ofSlice w ht ad m c xs h.1 (fun j u hu=>by obtain⟨ad',he,hc⟩:=h.2 j u hu;injection he with he;subst he;exact hc) h1
variable {tx:Nat}{news:List Value}
theorem GU {base t ty e b:Nat}{z:Value}{k:Nat}{x:Value}(ht:P.underlying t=some (.slice e))(hel:El P e s b z)(hO:Own w base e s A k c xs)(hS:Src P s tx x m news w)
  (hb:(k+m)*b<=140737488355328)(hl:k+m<=maxLen)(hbase:base<=w.heap.size):
  ∃A' c' w',(Builtin.append_ #[t,tx] ty #[.slice A k c,x]).run P w= .ok (.slice A' (k+m) c') w'/\Own w' base e s A' (k+m) c' (xs++news)/\Ch w w' (rowOf A c)/\At w A c A' c':=by
 obtain⟨i,hi,hz,hsz,hby,hzs,hpos⟩:=hel
 subst hsz hby
 have hlen:(xs++news).length=(k+m)*i.size:=by rw[List.length_append,hO.1,hS.newsLen,Nat.add_mul]
 have l:k+m<=9223372036854775807:=by simp only[maxLen]at hl;omega
 have hcap:=hO.cap
 by_cases hroom:k+m<=c
 ·rcases hO.2 with⟨rfl,rfl⟩|⟨gb,cur,rfl,hbg,hg,hnc,hcm,hcs,htake⟩
  ·have:m=0:=by omega
   subst this
   have hn:news=[]:=List.eq_nil_of_length_eq_zero (by simpa using hS.newsLen)
   subst hn
   refine⟨A,0,w,?_,by simpa using hO,Ch.refl _ _,At.refl _ _ _⟩
   cases A<;>rcases hS.kind with⟨e',hk⟩|hk<;>simp[Builtin.append_,run_underlying ht,run_underlying hk,sizeOf,typeInfo,hi,hS.len,hS.cells,storeCells]
  ·have hfit:k*i.size+news.length<=cur.size:=by rw[hS.newsLen,hcs,<-Nat.add_mul];exact Nat.mul_le_mul_right _ hroom
   have hst:=run_storeCells_at P gb (k*i.size) e news 0 cur w hg (by simpa using hfit) hS.one
   simp only[Nat.add_zero]at hst
   have hrun:(Builtin.append_ #[t,tx] ty #[.slice (some ⟨gb,0,none⟩) k c,x]).run P w= .ok (.slice (some ⟨gb,0,none⟩) (k+m) c) (w.setRow gb (cur.toList.take (k*i.size)++news++cur.toList.drop (k*i.size+news.length)).toArray):=by
    rcases hS.kind with⟨e',hk⟩|hk<;>simp[Builtin.append_,run_underlying ht,run_underlying hk,sizeOf,typeInfo,hi,hS.len,hroom,hS.cells,Addr.add_lit,hst]
   by_cases d:c=0
   ·subst d
    have f:k=0/\m=0:=by omega
    obtain⟨rfl,rfl⟩:=f
    have hn:news=[]:=List.eq_nil_of_length_eq_zero (by simpa using hS.newsLen)
    subst hn
    refine⟨_,_,_,hrun,⟨hlen,.inl ⟨rfl,rfl⟩⟩,?_,At.refl _ _ _⟩
    simp only[Nat.zero_mul,List.take_zero,List.nil_append,List.length_nil,Nat.add_zero,List.drop_zero,Array.toArray_toList]
    rw[setRow_self w gb cur e (0,0) hg]
    exact Ch.refl _ _
   ·refine⟨_,_,_,hrun,⟨hlen,.inr ⟨gb,(cur.toList.take (k*i.size)++news++cur.toList.drop (k*i.size+news.length)).toArray,rfl,hbg,setRow_heap w gb cur _ e (0,0) hg,hroom,hcm,?_,?_⟩⟩,
     ⟨rfl,rfl,rfl,by simp,fun q _ hq=>setRow_other w gb q _ (fun e=>hq (by rw[uO _ _ _ d,e]))⟩,At.refl _ _ _⟩
    ·simp only[List.size_toArray,List.length_append,List.length_take,List.length_drop,Array.length_toList]
     omega
    ·rw[htake,<-hlen]
     exact List.take_left
 ·have hold:(Builtin.firstCells i.size k (.slice A k c)).run P w.drew= .ok xs.toArray w.drew:=by
   have hSl:Sl w.drew i.size A k xs:=hO.sl.le (Le.drew w)
   cases A with
   |none=>
    have hx:xs=[]:=by
     cases xs with
     |nil=>rfl
     |cons u us=>obtain⟨_,he,_⟩:=hSl.2 0 u Z;cases he
    subst hx
    simp[Builtin.firstCells]
   |some ad=>exact run_firstCells_some w.drew i.size k ad k c xs hO.1 (fun j u hu=>by obtain⟨ad',he,hc⟩:=hSl.2 j u hu;injection he with he;subst he;exact hc)
  have hr:=run_append_grow_src (P:=P) w t tx ty e i z ht hi hz A k c xs hold x m news hS (by omega) (by omega) (growslice_fits (by omega) hb)
  have hge:=grownCap_ge w (k+m) c e
  have hcm:grownCap w (k+m) c e<=maxLen:=grownCap_le_maxLen w (k+m) c e hl
  refine⟨some ⟨w.heap.size,0,none⟩,_,_,hr,⟨hlen,.inr ⟨w.heap.size,_,rfl,hbase,heap_alloc_new w.drew _,hge,hcm,?_,?_⟩⟩,⟨rfl,rfl,rfl,by simp,fun q hq _=>Below.heap_alloc w.drew _ q hq⟩,fun q hq=> .inr (Nat.le_of_eq (ru hq).symm)⟩
  ·simp only[Array.size_append,List.size_toArray,size_zeroCells,hzs,hlen,<-Nat.add_mul]
   congr 1
   omega
  ·simp only[Array.toList_append]
   rw[<-hlen]
   exact List.take_left
theorem Ef.append {base t e b:Nat}{z:Value}{k:Nat}(ht:P.underlying t=some (.slice e))(hel:El P e s b z)(hx:ev env x=some (.slice A k c))(hO:Own w base e s A k c xs)
  (hy:ev env y=some v)(hS:Src P s tx v m news w)(hb:(k+m)*b<=140737488355328)(hl:k+m<=maxLen)(hbase:base<=w.heap.size)
  (h:∀A' c' w',Own w' base e s A' (k+m) c' (xs++news)->Ch w w' (rowOf A c)->At w A c A' c'->K (.slice A' (k+m) c') w'):
  Ef P env n ⟨d,.call ⟨.builtin .append,#[x,y],#[t,tx]⟩,T,p,af,g⟩ w K:=by
 obtain⟨A',c',w',hr,f,i,j⟩:=GU (ty:=T) ht hel hO hS hb hl hbase
 refine .of_run (fun a ha=>?_) (h A' c' w' f i j)
 simp[execOp,resolve,invoke,builtin,ha.eval hx,ha.eval hy,hr]
theorem Ef.mI {t e b:Nat}{z:Value}(ht:P.underlying t=some (.slice e))(hel:El P e 1 b z)(hx:ev env x=some v)(hv:v.oneCell'=true)
  (h:∀gb w',w.heap.size<=gb->ik w' gb e #[v]->Le w w'->K (.slice (some ⟨gb,0,none⟩) 1 1) w'):Ef P env n ⟨d,.buildSlice t 1 #[(0,x)],T,p,af,g⟩ w K:=by
 have hc:v.cells=#[v]:=by cases v<;>first|rfl|cases hv
 have hzs:∃z0,z.cells=#[z0]:=by
  obtain⟨i,_,_,_,_,hz,_⟩:=hel
  exact Array.size_eq_one_iff.1 hz
 obtain⟨z0,c⟩:=hzs
 refine .of_run (v:= .slice (some ⟨w.heap.size,0,none⟩) 1 1) (w':=w.alloc (.cells #[v] e)) (fun a ha=>?_) (h _ _ (Nat.le_refl _) (ik.new w e _) (Le.alloc w _))
 simp[execOp,Instr.buildSlice,run_underlying ht,hel.sz.run,hel.zr.run,ha.eval hx,c,Instr.fill,hc,newRow,show Array.range 1=#[0]from Z]
theorem Ef.makeSlice {t e b:Nat}{z:Value}(m c:Nat)(ht:P.underlying t=some (.slice e))(hel:El P e s b z)(hx:ev env x=some (.int k i))(hi:i=(m:Int))(hy:ev env y=some (.int k' i'))(hi':i'=(c:Int))
  (hmc:m<=c)(hb:c*b<=140737488355328)(hc:c<=maxLen)(h:∀gb w',w.heap.size<=gb->ik w' gb e (madeCells z.cells (c*s))->Le w w'->K (.slice (some ⟨gb,0,none⟩) m c) w'):
  Ef P env n ⟨d,.makeSlice t x y,T,p,af,g⟩ w K:=by
 obtain⟨inf,ag7,hz,hsz,hby,hzs,hpos⟩:=hel
 subst hsz hby hi hi'
 have f:c<=9223372036854775807:=by simp only[maxLen]at hc;omega
 have hbb:(inf.bytes:Int)*(c:Int)<=281474976710656:=by
  have:((inf.bytes*c:Nat):Int)<=281474976710656:=by rw[Nat.mul_comm];omega
  rwa [Int.natCast_mul]at this
 have hr:=run_make (P:=P) w t e inf z ht ag7 hz k k' m c (by omega) (by omega) hbb (by omega)
 simp only[Int.toNat_natCast]at hr
 refine .of_run (fun a ha=>?_) (h _ _ (Nat.le_refl _) (ik.new w e _) (Le.alloc w _))
 simp[execOp,ha.eval hx,ha.eval hy,hr]
end
end Go.Sx
