/- SplitTells: for every input the law answers true and leaves its arguments as they were. -/
import Derived.Test.YtkaedikifgpkeaaGreatDoorSplitTellsA
import Derived.Handy
set_option linter.unusedVariables false
set_option linter.unusedSimpArgs false
namespace Go.oF
def B:Nat:=4294967296
def val:List Nat->Nat
  |[]=>0
  |d::l=>d+B*val l
def eP (n:Nat):List Nat:=if h:n=0 then[]else(n%B)::eP (n/B)
termination_by n
decreasing_by exact Nat.div_lt_self (by omega) (by decide)
theorem eT:eP 0=[]:=by rw[eP];rfl
theorem jP {n:Nat}(h:n≠0):eP n=(n%B)::eP (n/B):=by rw[eP,dif_neg h]
theorem Bn:0<B:=by decide
theorem iV (n:Nat):val (eP n)=n:=by
  induction n using Nat.strongRecOn with
  |_ n ih=>
    by_cases h:n=0
    · subst h;rw[eT];rfl
    · rw[jP h,val,ih _ (Nat.div_lt_self (by omega) (by decide))]
      exact Nat.mod_add_div n B
theorem l8 (n:Nat):∀d∈eP n,d<B:=by
  induction n using Nat.strongRecOn with
  |_ n ih=>
    by_cases h:n=0
    · subst h;rw[eT];intro d hd;cases hd
    · rw[jP h]
      intro d hd
      rcases List.mem_cons.1 hd with rfl|hd
      · exact Nat.mod_lt _ Bn
      · exact ih _ (Nat.div_lt_self (by omega) (by decide)) d hd
theorem val_append (l m:List Nat):val (l++m)=val l+B^l.length*val m:=by
  induction l with
  |nil=>simp[val]
  |cons d l ih=>
    rw[List.cons_append,val,val,ih,List.length_cons,Nat.pow_succ,Nat.mul_add,Nat.mul_comm (B^l.length) B,Nat.mul_assoc]
    omega
theorem rW:∀{l:List Nat},(∀d∈l,d<B)->val l<B^l.length
  |[],_=>by simp[val]
  |d::l,h=>by
    have h1:=h d List.mem_cons_self
    have b:=rW (l:=l) (fun x hx=>h x (List.mem_cons_of_mem _ hx))
    rw[val,List.length_cons,Nat.pow_succ,Nat.mul_comm]
    have c:B*(val l+1)<=B*B^l.length:=Nat.mul_le_mul_left _ b
    rw[Nat.mul_add]at c
    rw[Nat.mul_comm (B^l.length) B,Nat.mul_comm (val l) B]
    omega
theorem val_zero:∀{l:List Nat},(∀d∈l,d=0)->val l=0
  |[],_=>rfl
  |d::l,h=>by rw[val,h d List.mem_cons_self,val_zero (fun x hx=>h x (List.mem_cons_of_mem _ hx)),Nat.mul_zero]
theorem G5:∀{l:List Nat},(∀d∈l,d<B)->(∀h:l≠[],l.getLast h≠0)->eP (val l)=l
  |[],_,_=>eT
  |d::l,hb,ht=>by
    have hd:=hb d List.mem_cons_self
    have hl:=fun x hx=>hb x (List.mem_cons_of_mem _ hx)
    have ih:=G5 (l:=l) hl (fun h=>by have:=ht (List.cons_ne_nil _ _);rwa [List.getLast_cons h]at this)
    have hne:val (d::l)≠0:=by
      intro b
      rw[val]at b
      have c:d=0:=by omega
      have e:val l=0:=by
        rcases Nat.mul_eq_zero.1 (show B*val l=0 by omega)with h|h
        · exact absurd h (by decide)
        · exact h
      rw[e,eT]at ih
      subst ih
      exact ht (List.cons_ne_nil _ _) (by simpa using c)
    rw[jP hne,val]
    rw[Nat.add_mul_mod_self_left,Nat.mod_eq_of_lt hd,Nat.add_mul_div_left _ _ Bn,Nat.div_eq_of_lt hd,Nat.zero_add,ih]
theorem G6 (n:Nat)(h:eP n≠[]):(eP n).getLast h≠0:=by
  induction n using Nat.strongRecOn with
  |_ n ih=>
    by_cases c:n=0
    · subst c;exact absurd eT h
    · have e:=jP c
      by_cases b:eP (n/B)=[]
      · have d:n/B=0:=by have:=iV (n/B);rw[b]at this;exact this.symm
        simp only[e,b,List.getLast_singleton]
        have:=Nat.mod_add_div n B
        rw[d]at this
        omega
      · simp only[e]
        rw[List.getLast_cons b]
        exact ih _ (Nat.div_lt_self (by omega) (by decide)) b
theorem uH {l:List Nat}(hb:∀d∈l,d<B){n:Nat}(hn:n<=l.length)(hz:∀j,n<=j->l.getD j 0=0)(ht:0<n->l.getD (n-1) 0≠0):l.take n=eP (val l):=by
  have e:val l=val (l.take n):=by
    conv=>lhs;rw[<-List.take_append_drop n l,val_append]
    rw[val_zero (l:=l.drop n),Nat.mul_zero,Nat.add_zero]
    intro d hd
    obtain⟨i,hi,rfl⟩:=List.getElem_of_mem hd
    rw[List.getElem_drop]
    have:=hz (n+i) (Nat.le_add_right _ _)
    rw[List.length_drop]at hi
    simpa[List.getD,show n+i<l.length by omega]using this
  rw[e]
  refine(G5 (fun d hd=>hb d (List.mem_of_mem_take hd)) (fun h=>?_)).symm
  have hlen:(l.take n).length=n:=by rw[List.length_take];omega
  have hpos:0<n:=by
    rcases Nat.eq_zero_or_pos n with b|b
    · subst b;exact absurd List.take_zero h
    · exact b
  have:=ht hpos
  rw[List.getLast_eq_getElem]
  simp only[hlen,List.getElem_take]
  simpa[List.getD,show n-1<l.length by omega]using this
theorem G7 {l m:List Nat}(hb:∀d∈l,d<B)(hlen:l.length=m.length){i:Nat}(hi:i<l.length)(hd:l.drop (i+1)=m.drop (i+1))(h:l.getD i 0<m.getD i 0):val l<val m:=by
  have hl:l=l.take i++l.getD i 0::l.drop (i+1):=by
    have:=List.take_append_drop i l
    rw[List.drop_eq_getElem_cons hi]at this
    simp[List.getD,hi]
  have hm:m=m.take i++m.getD i 0::m.drop (i+1):=by
    have:=List.take_append_drop i m
    rw[List.drop_eq_getElem_cons (by omega:i<m.length)]at this
    simp[List.getD,show i<m.length by omega]
  rw[hl,hm,val_append,val_append,val,val,List.length_take,List.length_take,<-hd,Nat.min_eq_left (by omega),Nat.min_eq_left (by omega)]
  have b:val (l.take i)<B^i:=by
    have:=rW (l:=l.take i) (fun d hd=>hb d (List.mem_of_mem_take hd))
    rwa [List.length_take,Nat.min_eq_left (by omega)]at this
  generalize l.getD i 0=x at h
  generalize m.getD i 0=y at h
  generalize val (l.drop (i+1))=z
  have c:B^i*(x+B*z)+B^i<=B^i*(y+B*z):=by
    rw[<-Nat.mul_succ]
    exact Nat.mul_le_mul_left _ (by omega)
  omega
theorem qF {a b:Nat}(h:(eP a).length<(eP b).length):a<b:=by
  have c:=rW (l8 a)
  rw[iV]at c
  have hb:eP b≠[]:=by intro d;rw[d]at h;simp at h
  have i:=G6 b hb
  have e:=List.dropLast_concat_getLast hb
  have f:val (eP b)=val (eP b).dropLast+B^(eP b).dropLast.length*val [(eP b).getLast hb]:=by rw[<-val_append,e]
  rw[iV,List.length_dropLast]at f
  have j:B^(eP a).length<=B^((eP b).length-1):=Nat.pow_le_pow_right (by decide) (by omega)
  have k:B^((eP b).length-1)*1<=B^((eP b).length-1)*val [(eP b).getLast hb]:=Nat.mul_le_mul_left _ (by simp only[val];omega)
  omega
end Go.oF

namespace Go.oF
theorem Ai {l:List Nat}{j:Nat}(hj:j<l.length)(d:Nat):val (l.set j d)+B^j*l.getD j 0=val l+B^j*d:=by
  have hl:l=l.take j++l.getD j 0::l.drop (j+1):=by
    have:=List.take_append_drop j l
    rw[List.drop_eq_getElem_cons hj]at this
    simp[List.getD,hj]
  have hlen:(l.take j).length=j:=by rw[List.length_take];omega
  have hs:l.set j d=l.take j++d::l.drop (j+1):=by
    conv=>lhs;rw[hl]
    rw[List.set_append_right _ _ (by rw[hlen];exact Nat.le_refl _),hlen,Nat.sub_self]
    rfl
  rw[hs]
  conv=>rhs;rw[hl]
  rw[val_append,val_append,val,val,hlen,Nat.mul_add,Nat.mul_add]
  omega
theorem ow (k:Nat):val (List.replicate k 0)=0:=val_zero fun d hd=>(List.mem_replicate.1 hd).2
theorem getD_lt {l:List Nat}(hb:∀d∈l,d<B)(j:Nat):l.getD j 0<B:=by
  rcases Nat.lt_or_ge j l.length with h|h
  · rw[List.getD_eq_getElem?_getD,List.getElem?_eq_getElem h]
    exact hb _ (List.getElem_mem h)
  · rw[List.getD_eq_getElem?_getD,List.getElem?_eq_none h]
    exact Bn
theorem vY {l:List Nat}(hb:∀d∈l,d<B){j d:Nat}(hd:d<B):∀x∈l.set j d,x<B:=by
  intro x hx
  rcases List.mem_or_eq_of_mem_set hx with h|h
  · exact hb x h
  · rw[h];exact hd
theorem oz {l:List Nat}{k:Nat}(hk:k<l.length):val (l.take (k+1))=val (l.take k)+B^k*l.getD k 0:=by
  rw[List.take_add_one,val_append,List.length_take,Nat.min_eq_left (by omega)]
  congr 2
  simp[List.getD,hk,val]
theorem Bo {l:List Nat}{k:Nat}(hk:k<l.length):val (l.drop k)=l.getD k 0+B*val (l.drop (k+1)):=by
  rw[List.drop_eq_getElem_cons hk,val]
  simp[List.getD,hk]
theorem Bp {x y o c:Nat}(hx:x<B)(hy:y<B)(ho:o<B)(hc:c<B):x*y+o+c<B*B:=by
  have h:=Nat.mul_le_mul (Nat.le_pred_of_lt hx) (Nat.le_pred_of_lt hy)
  have e:B.pred*B.pred=18446744065119617025:=by decide
  have b:B*B=18446744073709551616:=by decide
  have d:B=4294967296:=rfl
  rw[e]at h
  omega
theorem Bq {out:List Nat}{i k x y V c b:Nat}(hlen:i+k<out.length)(h:val out+B^(i+k)*c=V+B^i*(x*b)):
    val (out.set (i+k) ((x*y+out.getD (i+k) 0+c)%B))+B^(i+(k+1))*((x*y+out.getD (i+k) 0+c)/B)=V+B^i*(x*(b+B^k*y)):=by
  have d:=Ai hlen ((x*y+out.getD (i+k) 0+c)%B)
  generalize hn:x*y+out.getD (i+k) 0+c=n at*
  have e:B^(i+(k+1))*(n/B)=B^(i+k)*(B*(n/B)):=by rw[<-Nat.add_assoc,Nat.pow_succ,Nat.mul_assoc]
  have f:B^(i+k)*(n%B)+B^(i+k)*(B*(n/B))=B^(i+k)*n:=by rw[<-Nat.mul_add,Nat.mod_add_div]
  have j:B^i*(x*(b+B^k*y))=B^i*(x*b)+B^(i+k)*(x*y):=by
    rw[Nat.mul_add,Nat.mul_add,Nat.pow_add]
    congr 1
    simp[Nat.mul_comm,Nat.mul_left_comm,Nat.mul_assoc]
  have l:B^(i+k)*n=B^(i+k)*(x*y)+B^(i+k)*out.getD (i+k) 0+B^(i+k)*c:=by rw[<-hn,Nat.mul_add,Nat.mul_add]
  omega
theorem Sy {out:List Nat}{i m x V c b b':Nat}(hlen:i+m<out.length)(h0:out.getD (i+m) 0=0)(h:val out+B^(i+m)*c=V*b+B^i*(x*b)):val (out.set (i+m) c)=(V+B^i*x)*b:=by
  have d:=Ai hlen c
  rw[h0,Nat.mul_zero]at d
  rw[Nat.add_mul,Nat.mul_assoc]
  omega
theorem Lt {a b q r:Nat}(h:a=b*q+r)(hr:r<b):a/b=q/\a%b=r:=by
  subst h
  constructor
  · rw[Nat.mul_add_div (by omega),Nat.div_eq_of_lt hr,Nat.add_zero]
  · rw[Nat.mul_add_mod,Nat.mod_eq_of_lt hr]
theorem SA {r d:Nat}(hd:d<B)(h:¬(r=0/\d=0)):d::eP r=eP (d+B*r):=by
  have hne:d+B*r≠0:=by
    intro b
    apply h
    refine⟨?_,by omega⟩
    rcases Nat.mul_eq_zero.1 (show B*r=0 by omega)with k|k
    · exact absurd k (by decide)
    · exact k
  rw[jP hne,Nat.add_mul_mod_self_left,Nat.mod_eq_of_lt hd,Nat.add_mul_div_left _ _ Bn,Nat.div_eq_of_lt hd,Nat.zero_add]
end Go.oF

namespace Go.oF
theorem Br (x y b:BitVec 32):(x-y-b).toNat=(x.toNat+(4294967296-y.toNat)+(4294967296-b.toNat))%4294967296:=by
  rw[BitVec.toNat_sub,BitVec.toNat_sub]
  have:=x.isLt
  have:=y.isLt
  have:=b.isLt
  omega
theorem Fa (x y b:BitVec 32)(hb:b.toNat<=1):(((~~~x&&&y)|||(~~~(x^^^y)&&&(x-y-b)))>>>31).toNat=if x.toNat<y.toNat+b.toNat then 1 else 0:=by
  have hd:=Br x y b
  generalize x-y-b=d at*
  have hm:((~~~x&&&y)|||(~~~(x^^^y)&&&d)).msb=((!x.msb&&y.msb)||(!(x.msb^^y.msb)&&d.msb)):=by simp
  generalize ((~~~x&&&y)|||(~~~(x^^^y)&&&d))=v at*
  rw[BitVec.toNat_ushiftRight,Nat.shiftRight_eq_div_pow]
  simp only[BitVec.msb_eq_decide]at hm
  have i:=x.isLt
  have j:=y.isLt
  have k:=d.isLt
  have l:=v.isLt
  generalize x.toNat=X at*
  generalize y.toNat=Y at*
  generalize b.toNat=C at*
  generalize d.toNat=D at*
  generalize v.toNat=V at*
  by_cases c:2147483648<=X<;>by_cases e:2147483648<=Y<;>by_cases f:2147483648<=D<;>by_cases h:2147483648<=V<;>simp[c,e,f,h]at hm<;>split<;>omega
theorem SB {x y c:Nat}(hx:x<4294967296)(hy:y<4294967296)(hc:c<=1):(x+(4294967296-y)+(4294967296-c))%4294967296+y+c=x+4294967296*(if x<y+c then 1 else 0):=by
  have b:4294967296-y+y=4294967296:=by omega
  have d:4294967296-c+c=4294967296:=by omega
  generalize 4294967296-y=u at*
  generalize 4294967296-c=v at*
  split<;>omega
theorem Pf {out a b:List Nat}{i x y c V W:Nat}(hlen:i<out.length)(h0:out.getD i 0=0)(h:val out+W=V+B^i*c)(hx:x<B)(hy:y<B)(hc:c<=1):
    val (out.set i ((x+(B-y)+(B-c))%B))+(W+B^i*y)=(V+B^i*x)+B^(i+1)*(if x<y+c then 1 else 0):=by
  have d:=Ai hlen ((x+(B-y)+(B-c))%B)
  rw[h0,Nat.mul_zero,Nat.add_zero]at d
  have hB:B=4294967296:=rfl
  have key:(x+(B-y)+(B-c))%B+y+c=x+B*(if x<y+c then 1 else 0):=SB hx hy hc
  have e:B^(i+1)*(if x<y+c then 1 else 0)=B^i*(B*(if x<y+c then 1 else 0)):=by rw[Nat.pow_succ,Nat.mul_assoc]
  rw[e]
  generalize B*(if x<y+c then 1 else 0)=bb at*
  generalize (x+(B-y)+(B-c))%B=r at*
  have f:B^i*r+B^i*y+B^i*c=B^i*x+B^i*bb:=by rw[<-Nat.mul_add,<-Nat.mul_add,key,Nat.mul_add]
  omega
end Go.oF
namespace Go.oF
structure Gr (pr:Nat->Bool)(i d:Nat):Prop where
  i32:i<=32
  dv:2^(32-i)∣d
  top:d+2^(32-i)<=4294967296
  yes:pr d=true
  no:d+2^(32-i)=4294967296\/pr (d+2^(32-i))=false
theorem Gr.zero {pr:Nat->Bool}(h:pr 0=true):Gr pr 0 0:=⟨by omega,Nat.dvd_zero _,by decide,h,.inl (by decide)⟩
theorem Bt {i:Nat}(h:i<32):2^(32-i)=2^(31-i)+2^(31-i):=by
  rw[show 32-i=(31-i)+1 by omega,Nat.pow_succ]
  omega
theorem Gr.lt {pr:Nat->Bool}{i d:Nat}(g:Gr pr i d)(h:i<32):d<4294967296/\2^(31-i)<4294967296/\d+2^(31-i)<4294967296/\2^((31-i)+1)∣d:=by
  have c:=g.top
  rw[Bt h]at c
  have e:0<2^(31-i):=Nat.pow_pos (by decide)
  have b:=g.dv
  rw[show 32-i=(31-i)+1 by omega]at b
  exact⟨by omega,by omega,by omega,b⟩
theorem Gr.aah {pr:Nat->Bool}{i d:Nat}(g:Gr pr i d)(h:i<32)(hp:pr (d+2^(31-i))=true):Gr pr (i+1) (d+2^(31-i)):=by
  have e:32-(i+1)=31-i:=by omega
  have b:=g.top
  have c:=g.no
  rw[Bt h,<-Nat.add_assoc]at b c
  refine⟨by omega,?_,by rw[e];exact b,hp,by rw[e];exact c⟩
  rw[e]
  exact Nat.dvd_add (Nat.dvd_trans (Nat.pow_dvd_pow 2 (by omega)) g.dv) (Nat.dvd_refl _)
theorem Gr.noB {pr:Nat->Bool}{i d:Nat}(g:Gr pr i d)(h:i<32)(hp:pr (d+2^(31-i))=false):Gr pr (i+1) d:=by
  have e:32-(i+1)=31-i:=by omega
  have b:=g.top
  rw[Bt h]at b
  have c:0<2^(31-i):=Nat.pow_pos (by decide)
  refine⟨by omega,?_,by rw[e];omega,g.yes,by rw[e];exact .inr hp⟩
  rw[e]
  exact Nat.dvd_trans (Nat.pow_dvd_pow 2 (by omega)) g.dv
theorem Gr.done {pr:Nat->Bool}{i d:Nat}(g:Gr pr i d)(h:¬i<32):d<4294967296/\pr d=true/\(d+1=4294967296\/pr (d+1)=false):=by
  have e:32-i=0:=by omega
  have c:=g.top
  have b:=g.no
  rw[e]at c b
  simp only[Nat.pow_zero]at c b
  exact⟨by omega,g.yes,b⟩
end Go.oF

namespace Go.oF
structure Fr where
  n:Nat
  d:Nat
deriving DecidableEq
def okF (f:Fr):Prop:=0<f.d/\Nat.gcd f.n f.d=1
def gY (n d:Nat):Fr:=⟨n/Nat.gcd n d,d/Nat.gcd n d⟩
def jW (a b:Fr):Fr:=gY (a.n*b.n) (a.d*b.d)
def G8 (a b:Fr):Prop:=a.n*b.d<=b.n*a.d
def SC (a b:Fr):Prop:=a.n*b.d<b.n*a.d
instance (a b : Fr) : Decidable (G8 a b) := by unfold G8; infer_instance
instance (a b : Fr) : Decidable (SC a b) := by unfold SC; infer_instance
def lH (a b:Nat):Int:=if a<b then-1 else if b<a then 1 else 0
def kQ (a b:Fr):Int:=lH (a.n*b.d) (b.n*a.d)
theorem Fb {n d:Nat}(h:0<d):0<Nat.gcd n d:=Nat.gcd_pos_of_pos_right _ h
theorem qG {n d:Nat}(h:0<d):okF (gY n d):=by
  have hg:=Fb (n:=n) h
  refine⟨Nat.div_pos (Nat.le_of_dvd h (Nat.gcd_dvd_right n d)) hg,?_⟩
  show Nat.gcd (n/Nat.gcd n d) (d/Nat.gcd n d)=1
  rw[Nat.gcd_div (Nat.gcd_dvd_left n d) (Nat.gcd_dvd_right n d)]
  exact Nat.div_self hg
theorem Bu {n d:Nat}:(gY n d).n*d=n*(gY n d).d:=by
  show n/Nat.gcd n d*d=n*(d/Nat.gcd n d)
  have b:=Nat.div_mul_cancel (Nat.gcd_dvd_left n d)
  have c:=Nat.div_mul_cancel (Nat.gcd_dvd_right n d)
  generalize Nat.gcd n d=g at*
  generalize n/g=x at*
  generalize d/g=y at*
  rw[<-b,<-c,Nat.mul_assoc,Nat.mul_comm g y,Nat.mul_comm y g]
theorem yo {f:Fr}(h:okF f):gY f.n f.d=f:=by
  unfold gY
  rw[h.2,Nat.div_one,Nat.div_one]
theorem Eb {a b c:Fr}(hb:0<b.d)(h:G8 a b)(k:G8 b c):G8 a c:=by
  unfold G8 at*
  refine Nat.le_of_mul_le_mul_right ?_ hb
  calc a.n*c.d*b.d=a.n*b.d*c.d:=Nat.mul_right_comm _ _ _
    _<=b.n*a.d*c.d:=Nat.mul_le_mul_right _ h
    _=b.n*c.d*a.d:=Nat.mul_right_comm _ _ _
    _<=c.n*b.d*a.d:=Nat.mul_le_mul_right _ k
    _=c.n*a.d*b.d:=Nat.mul_right_comm _ _ _
theorem Lu {a b:Fr}:SC a b↔¬G8 b a:=by unfold SC G8;omega
theorem Fe {a b:Fr}(ha:okF a)(hb:okF b)(h:G8 a b)(k:G8 b a):a=b:=by
  have e:a.n*b.d=b.n*a.d:=Nat.le_antisymm h k
  have c:Nat.Coprime a.n a.d:=ha.2
  have f:Nat.Coprime b.n b.d:=hb.2
  have i:a.d∣b.d:=c.symm.dvd_of_dvd_mul_left (by rw[e];exact Nat.dvd_mul_left _ _)
  have j:b.d∣a.d:=f.symm.dvd_of_dvd_mul_left (by rw[<-e];exact Nat.dvd_mul_left _ _)
  have ed:=Nat.dvd_antisymm i j
  rw[ed]at e
  have en:=Nat.eq_of_mul_eq_mul_right hb.1 e
  cases a;cases b;simp_all
theorem Pg {a b:Fr}:kQ a b<0↔SC a b:=by unfold kQ lH SC;split<;>(try split)<;>omega
theorem G9 {a b:Fr}:0<kQ a b↔SC b a:=by unfold kQ lH SC;split<;>(try split)<;>omega
theorem Aj {a b:Fr}(ha:okF a)(hb:okF b):okF (jW a b):=qG (Nat.mul_pos ha.1 hb.1)
theorem mul_eq (a b:Fr):(jW a b).n*(a.d*b.d)=a.n*b.n*(jW a b).d:=Bu
theorem Ha {a b:Fr}(ha:okF a)(hb:okF b)(h:a.n*b.d=b.n*a.d):a=b:=Fe ha hb (Nat.le_of_eq h) (Nat.le_of_eq h.symm)
theorem Hd {a b:Fr}{n d:Nat}(hd:0<d)(h:a.n*d=n*a.d)(k:b.n*d=n*b.d):a.n*b.d=b.n*a.d:=by
  refine Nat.eq_of_mul_eq_mul_right hd ?_
  calc a.n*b.d*d=a.n*d*b.d:=Nat.mul_right_comm _ _ _
    _=n*a.d*b.d:=by rw[h]
    _=n*b.d*a.d:=Nat.mul_right_comm _ _ _
    _=b.n*d*a.d:=by rw[k]
    _=b.n*a.d*d:=Nat.mul_right_comm _ _ _
end Go.oF

namespace Go.uI
open Go.fO Go.oF
structure Wy where
  f:Int
  c:Int
deriving DecidableEq
structure Nt where
  lo:Int
  hi:Int
  rm:Int
deriving DecidableEq
def XC:Wy:=⟨0,0⟩
def DJ:Nt:=⟨0,0,0⟩
abbrev MF:=Wy->Option Nt
def iC (e:fO.Edge):Wy:=⟨e.f,e.c⟩
def tu (n:Int):Bool:=decide (0<=n)&&decide (n<12)
def lS (e:fO.Edge):Bool:=tu e.f&&tu e.t&&decide (e.f≠e.t)&&decide (0<=e.c)&&decide (e.c<1048576)&&decide (0<e.r)&&decide (e.r<=1125899906842624)
def cnt (o:Option Nt)(rm:Int):Nt:=
  match o with
  |none=>⟨0,rm+1,rm⟩
  |some n=>⟨min n.lo rm,max (min n.hi (rm+1)) (min n.lo rm+1),rm⟩
def ofM (m:MF)(w:Wy)(rm:Int):Nt:=cnt (m w) rm
def jJ (e:fO.Edge)(a:Int):Bool:=lS e&&decide (0<a)&&decide (a<=e.r)
def nV (m:MF)(k:Wy)(n:Nt):MF:=fun x=>if x=k then some n else m x
def He (e:fO.Edge)(a:Int)(n:Nt):Nt:=⟨min n.lo (a-1),min n.hi a,e.r⟩
def wU (e:fO.Edge)(a:Int)(n:Nt):Nt:=⟨max n.lo a,max n.hi (a+1),e.r⟩
def wV (m:MF)(e:fO.Edge)(a:Int):MF:=if jJ e a=true then nV m (iC e) (He e a (ofM m (iC e) e.r))else m
def lG (m:MF)(e:fO.Edge)(a:Int):MF:=if jJ e a=true then nV m (iC e) (wU e a (ofM m (iC e) e.r))else m
def mK (m:MF)(e:fO.Edge):Int×Int:=if lS e=true then((ofM m (iC e) e.r).lo,(ofM m (iC e) e.r).hi)else(0,0)
def Bv (m:MF)(e:fO.Edge)(a:Int):Int:=(mK m e).2-min (max a (mK m e).1) (mK m e).2
def DK (m:MF)(e:fO.Edge):Int:=(mK m e).2-(mK m e).1
def lT (e:fO.Edge)(a:Int):Bool:=lS e&&decide (0<=a)&&decide (a<=e.r)
def gN (m:MF)(e:fO.Edge)(a:Int):Fr:=if lT e a=true then gY (Bv m e a).toNat (DK m e).toNat else⟨0,0⟩
def j3 (n:Nt):Prop:=0<=n.lo/\n.lo<n.hi/\n.hi<=n.rm+1/\n.rm<=1125899906842624
def ic (m:MF):Prop:=∀w n,m w=some n->j3 n
theorem lv {e:fO.Edge}(h:lS e=true):(0<=e.f/\e.f<12)/\(0<=e.t/\e.t<12)/\e.f≠e.t/\(0<=e.c/\e.c<1048576)/\0<e.r/\e.r<=1125899906842624:=by
  simp only[lS,tu,Bool.and_eq_true,decide_eq_true_eq]at h
  obtain⟨⟨⟨⟨⟨⟨b,d⟩,i⟩,j⟩,k⟩,l⟩,m⟩:=h
  exact⟨b,d,i,⟨j,k⟩,l,m⟩
theorem l9 {e:fO.Edge}{a:Int}(h:jJ e a=true):lS e=true/\0<a/\a<=e.r:=by
  simp only[jJ,Bool.and_eq_true,decide_eq_true_eq]at h
  exact⟨h.1.1,h.1.2,h.2⟩
theorem yt {o:Option Nt}{rm:Int}(ho:∀n,o=some n->j3 n)(h0:0<rm)(h1:rm<=1125899906842624):j3 (cnt o rm)/\(cnt o rm).rm=rm/\(cnt o rm).lo<=rm:=by
  cases o with
  |none=>
    show(0<=(0:Int)/\0<rm+1/\rm+1<=rm+1/\rm<=1125899906842624)/\rm=rm/\0<=rm
    omega
  |some n=>
    have:=ho n rfl
    unfold j3 at this
    show(0<=min n.lo rm/\min n.lo rm<max (min n.hi (rm+1)) (min n.lo rm+1)/\max (min n.hi (rm+1)) (min n.lo rm+1)<=rm+1/\rm<=1125899906842624)/\rm=rm/\min n.lo rm<=rm
    omega
theorem oO {m:MF}(hm:ic m)(w:Wy){rm:Int}(h0:0<rm)(h1:rm<=1125899906842624):j3 (ofM m w rm)/\(ofM m w rm).rm=rm/\(ofM m w rm).lo<=rm:=yt (fun n hn=>hm w n hn) h0 h1
theorem uJ {m:MF}(hm:ic m){k:Wy}{n:Nt}(hn:j3 n):ic (nV m k n):=by
  intro w x hx
  unfold nV at hx
  split at hx
  · cases hx;exact hn
  · exact hm w x hx
theorem Ph {m:MF}(hm:ic m){e:fO.Edge}{a:Int}(h:jJ e a=true):j3 (He e a (ofM m (iC e) e.r)):=by
  obtain⟨b,f,i⟩:=l9 h
  obtain⟨_,_,_,_,c,d⟩:=lv b
  have:=oO hm (iC e) c d
  unfold j3 at*
  unfold He
  simp only
  omega
theorem Pj {m:MF}(hm:ic m){e:fO.Edge}{a:Int}(h:jJ e a=true):j3 (wU e a (ofM m (iC e) e.r)):=by
  obtain⟨b,f,i⟩:=l9 h
  obtain⟨_,_,_,_,c,d⟩:=lv b
  have:=oO hm (iC e) c d
  unfold j3 at*
  unfold wU
  simp only
  omega
theorem Bw {m:MF}(hm:ic m)(e:fO.Edge)(a:Int):ic (wV m e a):=by
  unfold wV
  split
  · exact uJ hm (Ph hm (by assumption))
  · exact hm
theorem vZ {m:MF}(hm:ic m)(e:fO.Edge)(a:Int):ic (lG m e a):=by
  unfold lG
  split
  · exact uJ hm (Pj hm (by assumption))
  · exact hm
theorem wW {m:MF}(hm:ic m){e:fO.Edge}(h:lS e=true):0<=(mK m e).1/\(mK m e).1<(mK m e).2/\(mK m e).1<=e.r/\(mK m e).2<=e.r+1:=by
  obtain⟨_,_,_,_,b,c⟩:=lv h
  have d:=oO hm (iC e) b c
  unfold j3 at d
  unfold mK
  rw[if_pos h]
  simp only
  omega
end Go.uI

namespace Go.oF
theorem Lv:∀(j a:Nat),(eP a).getD j 0=a/B^j%B
  |0,a=>by
    by_cases h:a=0
    · subst h;rw[eT];simp
    · rw[jP h];simp
  |j+1,a=>by
    by_cases h:a=0
    · subst h;rw[eT];simp
    · rw[jP h,List.getD_cons_succ,Lv j (a/B),Nat.div_div_eq_div_mul,Nat.pow_succ,Nat.mul_comm B]
theorem Ff (a j:Nat):a/B^j=B*(a/B^(j+1))+(eP a).getD j 0:=by
  rw[Lv,Nat.pow_succ,<-Nat.div_div_eq_div_mul]
  exact(Nat.div_add_mod _ _).symm
theorem wh (a j:Nat):a%B^(j+1)=a%B^j+B^j*(eP a).getD j 0:=by rw[Lv,Nat.mod_pow_succ]
theorem Bz (a:Nat){j:Nat}(h:(eP a).length<=j):a<B^j:=by
  have b:=rW (l:=eP a) (l8 a)
  rw[iV]at b
  exact Nat.lt_of_lt_of_le b (Nat.pow_le_pow_right Bn h)
theorem Fg (a:Nat){j:Nat}(h:(eP a).length<=j):a/B^j=0:=Nat.div_eq_of_lt (Bz a h)
theorem Ak (a:Nat){j:Nat}(h:(eP a).length<=j):a%B^j=a:=Nat.mod_eq_of_lt (Bz a h)
theorem Lx {a b j:Nat}(h:a/B^(j+1)=b/B^(j+1))(hd:(eP a).getD j 0<(eP b).getD j 0):a<b:=by
  have d:=Ff a j
  have e:=Ff b j
  rcases Nat.lt_or_ge a b with k|k
  · exact k
  · have:=Nat.div_le_div_right (c:=B^j) k
    rw[h]at d
    omega
theorem SE {a b j:Nat}(h:a/B^(j+1)=b/B^(j+1))(hd:(eP a).getD j 0=(eP b).getD j 0):a/B^j=b/B^j:=by rw[Ff a j,Ff b j,h,hd]
def QEq (a b k:Nat):Prop:=a/B^k=b/B^k
theorem yu {out:List Nat}{i a b c:Nat}(hl:out.length=i)(h:val out+B^i*c=a%B^i+b%B^i):
    val (out++[((eP a).getD i 0+(eP b).getD i 0+c)%B])+B^(i+1)*(((eP a).getD i 0+(eP b).getD i 0+c)/B)=a%B^(i+1)+b%B^(i+1):=by
  rw[wh a,wh b,val_append,hl]
  generalize (eP a).getD i 0=x
  generalize (eP b).getD i 0=y
  have d:B^(i+1)*((x+y+c)/B)=B^i*(B*((x+y+c)/B)):=by rw[Nat.pow_succ,Nat.mul_assoc]
  have e:B^i*((x+y+c)%B)+B^i*(B*((x+y+c)/B))=B^i*x+B^i*y+B^i*c:=by rw[<-Nat.mul_add,Nat.mod_add_div,Nat.mul_add,Nat.mul_add]
  show val out+B^i*(((x+y+c)%B)+B*0)+_=_
  rw[Nat.mul_zero,Nat.add_zero]
  omega
theorem Pk {x y c:Nat}(hx:x<4294967296)(hy:y<4294967296)(hc:c<=1):(4294967296+x-y-c)%4294967296+y+c=x+4294967296*(1-(4294967296+x-y-c)/4294967296):=by omega
theorem DL {l:List Nat}{k:Nat}(h:k<=l.length):val l=val (l.take k)+B^k*val (l.drop k):=by
  have:=val_append (l.take k) (l.drop k)
  rwa [List.take_append_drop,List.length_take,Nat.min_eq_left h]at this
theorem Nk {out:List Nat}{i a b c:Nat}(hc:c<=1)(hl:out.length=i)(h:val out+b%B^i=a%B^i+B^i*c):
    val (out++[(B+(eP a).getD i 0-(eP b).getD i 0-c)%B])+b%B^(i+1)=a%B^(i+1)+B^(i+1)*(1-(B+(eP a).getD i 0-(eP b).getD i 0-c)/B):=by
  have hx:=getD_lt (l8 a) i
  have hy:=getD_lt (l8 b) i
  rw[wh a,wh b,val_append,hl]
  generalize (eP a).getD i 0=x at*
  generalize (eP b).getD i 0=y at*
  have hB:B=4294967296:=rfl
  have key:(B+x-y-c)%B+y+c=x+B*(1-(B+x-y-c)/B):=Pk hx hy hc
  have d:B^(i+1)*(1-(B+x-y-c)/B)=B^i*(B*(1-(B+x-y-c)/B)):=by rw[Nat.pow_succ,Nat.mul_assoc]
  have e:B^i*((B+x-y-c)%B)+B^i*y+B^i*c=B^i*x+B^i*(B*(1-(B+x-y-c)/B)):=by rw[<-Nat.mul_add,<-Nat.mul_add,key,Nat.mul_add]
  show val out+B^i*(((B+x-y-c)%B)+B*0)+_=_
  rw[Nat.mul_zero,Nat.add_zero,d]
  omega
theorem Pm {out:List Nat}{i a b c:Nat}(hb:∀d∈out,d<B)(hl:out.length=i)(ha:a<B^i)(hba:b<=a)(hc:c<=1)(h:val out+b%B^i=a%B^i+B^i*c):val out=a-b:=by
  have e:=rW hb
  rw[hl]at e
  rw[Nat.mod_eq_of_lt ha,Nat.mod_eq_of_lt (Nat.lt_of_le_of_lt hba ha)]at h
  rcases Nat.le_one_iff_eq_zero_or_eq_one.1 hc with rfl|rfl<;>omega
theorem Fh {l:List Nat}(hb:∀d∈l,d<B){d:Nat}(hd:d<B):∀x∈l++[d],x<B:=by
  intro x hx
  rcases List.mem_append.1 hx with h|h
  · exact hb x h
  · rw[List.mem_singleton.1 h];exact hd
theorem Ec {x y o cy:Nat}(hy:y=0)(ho:o=0)(hc:cy<B):(x*y+o+cy)/B=0:=by
  subst hy ho
  rw[Nat.mul_zero]
  exact Nat.div_eq_of_lt (by omega)
theorem LA (t:Nat):B^t=2^(32*t):=by rw[Nat.pow_mul];rfl
theorem V4 (a i:Nat):(eP a).getD (i/32) 0/2^(i%32)%2=a/2^i%2:=by
  rw[Lv,LA,show B=2^(i%32)*(2*2^(31-i%32)) by
    have:i%32+(1+(31-i%32))=32:=by omega
    calc B=2^32:=rfl
      _=2^(i%32+(1+(31-i%32))):=by rw[this]
      _=_:=by rw[Nat.pow_add,Nat.pow_add]]
  rw[Nat.mod_mul_right_div_self,Nat.mod_mul_right_mod,Nat.div_div_eq_div_mul,<-Nat.pow_add,show 32*(i/32)+i%32=i by omega]
theorem V5 (a i:Nat):a/2^i=2*(a/2^(i+1))+a/2^i%2:=by
  rw[Nat.pow_succ,<-Nat.div_div_eq_div_mul];omega
theorem SF {q:List Nat}{Q i:Nat}(hb:∀d∈q,d<B)(hv:val q=Q*2^(i+1))(hl:i/32<q.length):
    q.getD (i/32) 0%2^(i%32+1)=0/\q.getD (i/32) 0+2^(i%32)<B/\val (q.set (i/32) (q.getD (i/32) 0+2^(i%32)))=(2*Q+1)*2^i:=by
  have hd:q.getD (i/32) 0%2^(i%32+1)=0:=by
    have b:=DL (l:=q) (k:=i/32) (Nat.le_of_lt hl)
    have c:=Bo hl
    have f:val (q.take (i/32))<B^(i/32):=by
      have:=rW (l:=q.take (i/32)) (fun d hd=>hb d (List.mem_of_mem_take hd))
      rwa [List.length_take,Nat.min_eq_left (Nat.le_of_lt hl)]at this
    have m:val q/B^(i/32)=val (q.drop (i/32)):=by
      rw[b,Nat.add_mul_div_left _ _ (Nat.pow_pos Bn),Nat.div_eq_of_lt f,Nat.zero_add]
    have n:val q/B^(i/32)=Q*2^(i%32+1):=by
      rw[hv,LA,show i+1=32*(i/32)+(i%32+1) by omega,Nat.pow_add,show Q*(2^(32*(i/32))*2^(i%32+1))=Q*2^(i%32+1)*2^(32*(i/32)) by rw[Nat.mul_comm (2^(32*(i/32))),Nat.mul_assoc],Nat.mul_div_cancel _ (Nat.pow_pos (by decide))]
    have h:q.getD (i/32) 0=Q*2^(i%32+1)-B*val (q.drop (i/32+1)):=by omega
    have hBd:2^(i%32+1)∣B:=by
      have e:B=2^(i%32+1)*2^(31-i%32):=by rw[<-Nat.pow_add,show i%32+1+(31-i%32)=32 by omega];rfl
      rw[e];exact Nat.dvd_mul_right _ _
    rw[h]
    exact Nat.mod_eq_zero_of_dvd (Nat.dvd_sub (Nat.dvd_mul_left _ _) (Nat.dvd_trans hBd (Nat.dvd_mul_right _ _)))
  have hx:=getD_lt hb (i/32)
  refine⟨hd,?_,?_⟩
  · obtain⟨z,hz⟩:=Nat.dvd_of_mod_eq_zero hd
    have e:B=2^(i%32+1)*2^(31-i%32):=by rw[<-Nat.pow_add,show i%32+1+(31-i%32)=32 by omega];rfl
    rw[hz,e]at hx
    have j:z<2^(31-i%32):=Nat.lt_of_mul_lt_mul_left hx
    have hp:0<2^(i%32):=Nat.pow_pos (by decide)
    have b:2^(i%32+1)*(z+1)<=2^(i%32+1)*2^(31-i%32):=Nat.mul_le_mul_left _ j
    have c:2^(i%32+1)=2*2^(i%32):=by rw[Nat.pow_succ,Nat.mul_comm]
    rw[hz,e]
    rw[Nat.mul_add,Nat.mul_one]at b
    omega
  · have b:=Ai hl (q.getD (i/32) 0+2^(i%32))
    rw[Nat.mul_add,LA,<-Nat.pow_add,show 32*(i/32)+i%32=i by omega,hv,Nat.pow_succ]at b
    have e:(2*Q+1)*2^i=Q*(2^i*2)+2^i:=by rw[Nat.add_mul,Nat.one_mul,Nat.mul_comm 2 Q,Nat.mul_assoc,Nat.mul_comm 2]
    rw[e]
    omega
theorem Nl {a b k Q r:Nat}(h:a/2^(k+1)=b*Q+r):a/2^k=b*(2*Q)+(r+r+a/2^k%2):=by
  have c:=V5 a k
  rw[h]at c
  have e:b*(2*Q)=2*(b*Q):=by rw[Nat.mul_left_comm]
  omega
end Go.oF

