/- RouteSigned: for every input the law answers true and leaves its arguments as they were. -/
import Derived.Test.YtocheaahlpiajaaGreatDoorRouteSignedA
import Derived.Handy
set_option linter.unusedVariables false
set_option linter.unusedSimpArgs false
namespace Go.Nsp
def B:Nat:=4294967296
def val:List Nat->Nat
  |[]=>0
  |d::l=>d+B*val l
def digs (n:Nat):List Nat:=if h:n=0 then[]else(n%B)::digs (n/B)
termination_by n
decreasing_by exact Nat.div_lt_self (by omega) (by decide)
theorem digs_zero:digs 0=[]:=by rw[digs];rfl
theorem digs_pos {n:Nat}(h:n≠0):digs n=(n%B)::digs (n/B):=by rw[digs,dif_neg h]
theorem B_pos:0<B:=by decide
theorem val_digs (n:Nat):val (digs n)=n:=by
  induction n using Nat.strongRecOn with
  |_ n ih=>
    by_cases h:n=0
    · subst h;rw[digs_zero];rfl
    · rw[digs_pos h,val,ih _ (Nat.div_lt_self (by omega) (by decide))]
      exact Nat.mod_add_div n B
theorem digs_lt (n:Nat):∀d∈digs n,d<B:=by
  induction n using Nat.strongRecOn with
  |_ n ih=>
    by_cases h:n=0
    · subst h;rw[digs_zero];intro d hd;cases hd
    · rw[digs_pos h]
      intro d hd
      rcases List.mem_cons.1 hd with rfl|hd
      · exact Nat.mod_lt _ B_pos
      · exact ih _ (Nat.div_lt_self (by omega) (by decide)) d hd
theorem val_append (l m:List Nat):val (l++m)=val l+B^l.length*val m:=by
  induction l with
  |nil=>simp[val]
  |cons d l ih=>
    rw[List.cons_append,val,val,ih,List.length_cons,Nat.pow_succ,Nat.mul_add,Nat.mul_comm (B^l.length) B,Nat.mul_assoc]
    omega
theorem val_lt:∀{l:List Nat},(∀d∈l,d<B)->val l<B^l.length
  |[],_=>by simp[val]
  |d::l,h=>by
    have h1:=h d List.mem_cons_self
    have b:=val_lt (l:=l) (fun x hx=>h x (List.mem_cons_of_mem _ hx))
    rw[val,List.length_cons,Nat.pow_succ,Nat.mul_comm]
    have c:B*(val l+1)<=B*B^l.length:=Nat.mul_le_mul_left _ b
    rw[Nat.mul_add]at c
    rw[Nat.mul_comm (B^l.length) B,Nat.mul_comm (val l) B]
    omega
theorem val_zero:∀{l:List Nat},(∀d∈l,d=0)->val l=0
  |[],_=>rfl
  |d::l,h=>by rw[val,h d List.mem_cons_self,val_zero (fun x hx=>h x (List.mem_cons_of_mem _ hx)),Nat.mul_zero]
theorem digs_val:∀{l:List Nat},(∀d∈l,d<B)->(∀h:l≠[],l.getLast h≠0)->digs (val l)=l
  |[],_,_=>digs_zero
  |d::l,hb,ht=>by
    have hd:=hb d List.mem_cons_self
    have hl:=fun x hx=>hb x (List.mem_cons_of_mem _ hx)
    have ih:=digs_val (l:=l) hl (fun h=>by have:=ht (List.cons_ne_nil _ _);rwa [List.getLast_cons h]at this)
    have hne:val (d::l)≠0:=by
      intro b
      rw[val]at b
      have c:d=0:=by omega
      have e:val l=0:=by
        rcases Nat.mul_eq_zero.1 (show B*val l=0 by omega)with h|h
        · exact absurd h (by decide)
        · exact h
      rw[e,digs_zero]at ih
      subst ih
      exact ht (List.cons_ne_nil _ _) (by simpa using c)
    rw[digs_pos hne,val]
    rw[Nat.add_mul_mod_self_left,Nat.mod_eq_of_lt hd,Nat.add_mul_div_left _ _ B_pos,Nat.div_eq_of_lt hd,Nat.zero_add,ih]
theorem digs_top (n:Nat)(h:digs n≠[]):(digs n).getLast h≠0:=by
  induction n using Nat.strongRecOn with
  |_ n ih=>
    by_cases c:n=0
    · subst c;exact absurd digs_zero h
    · have e:=digs_pos c
      by_cases b:digs (n/B)=[]
      · have d:n/B=0:=by have:=val_digs (n/B);rw[b]at this;exact this.symm
        simp only[e,b,List.getLast_singleton]
        have:=Nat.mod_add_div n B
        rw[d]at this
        omega
      · simp only[e]
        rw[List.getLast_cons b]
        exact ih _ (Nat.div_lt_self (by omega) (by decide)) b
theorem digs_trim {l:List Nat}(hb:∀d∈l,d<B){n:Nat}(hn:n<=l.length)(hz:∀j,n<=j->l.getD j 0=0)(ht:0<n->l.getD (n-1) 0≠0):l.take n=digs (val l):=by
  have e:val l=val (l.take n):=by
    conv=>lhs;rw[<-List.take_append_drop n l,val_append]
    rw[val_zero (l:=l.drop n),Nat.mul_zero,Nat.add_zero]
    intro d hd
    obtain⟨i,hi,rfl⟩:=List.getElem_of_mem hd
    rw[List.getElem_drop]
    have:=hz (n+i) (Nat.le_add_right _ _)
    rw[List.length_drop]at hi
    simpa[List.getD,show n+i<l.length by omega]using this
  rw[e]
  refine(digs_val (fun d hd=>hb d (List.mem_of_mem_take hd)) (fun h=>?_)).symm
  have hlen:(l.take n).length=n:=by rw[List.length_take];omega
  have hpos:0<n:=by
    rcases Nat.eq_zero_or_pos n with b|b
    · subst b;exact absurd (List.take_zero) h
    · exact b
  have:=ht hpos
  rw[List.getLast_eq_getElem]
  simp only[hlen,List.getElem_take]
  simpa[List.getD,show n-1<l.length by omega]using this
theorem val_less {l m:List Nat}(hb:∀d∈l,d<B)(hlen:l.length=m.length){i:Nat}(hi:i<l.length)(hd:l.drop (i+1)=m.drop (i+1))(h:l.getD i 0<m.getD i 0):val l<val m:=by
  have hl:l=l.take i++l.getD i 0::l.drop (i+1):=by
    have:=List.take_append_drop i l
    rw[List.drop_eq_getElem_cons hi]at this
    simp[List.getD,hi]
  have hm:m=m.take i++m.getD i 0::m.drop (i+1):=by
    have:=List.take_append_drop i m
    rw[List.drop_eq_getElem_cons (by omega:i<m.length)]at this
    simp[List.getD,show i<m.length by omega]
  rw[hl,hm,val_append,val_append,val,val,List.length_take,List.length_take,<-hd,Nat.min_eq_left (by omega),Nat.min_eq_left (by omega)]
  have b:val (l.take i)<B^i:=by
    have:=val_lt (l:=l.take i) (fun d hd=>hb d (List.mem_of_mem_take hd))
    rwa [List.length_take,Nat.min_eq_left (by omega)]at this
  generalize l.getD i 0=x at h
  generalize m.getD i 0=y at h
  generalize val (l.drop (i+1))=z
  have c:B^i*(x+B*z)+B^i<=B^i*(y+B*z):=by
    rw[<-Nat.mul_succ]
    exact Nat.mul_le_mul_left _ (by omega)
  omega
theorem digs_len_le {a b:Nat}(h:(digs a).length<(digs b).length):a<b:=by
  have c:=val_lt (digs_lt a)
  rw[val_digs]at c
  have hb:digs b≠[]:=by intro d;rw[d]at h;simp at h
  have i:=digs_top b hb
  have e:=List.dropLast_concat_getLast hb
  have f:val (digs b)=val (digs b).dropLast+B^(digs b).dropLast.length*val [(digs b).getLast hb]:=by rw[<-val_append,e]
  rw[val_digs,List.length_dropLast]at f
  have j:B^(digs a).length<=B^((digs b).length-1):=Nat.pow_le_pow_right (by decide) (by omega)
  have k:B^((digs b).length-1)*1<=B^((digs b).length-1)*val [(digs b).getLast hb]:=Nat.mul_le_mul_left _ (by simp only[val];omega)
  omega
end Go.Nsp

namespace Go.Nsp
theorem val_set {l:List Nat}{j:Nat}(hj:j<l.length)(d:Nat):val (l.set j d)+B^j*l.getD j 0=val l+B^j*d:=by
  have hl:l=l.take j++l.getD j 0::l.drop (j+1):=by
    have:=List.take_append_drop j l
    rw[List.drop_eq_getElem_cons hj]at this
    simp[List.getD,hj]
  have hlen:(l.take j).length=j:=by rw[List.length_take];omega
  have hs:l.set j d=l.take j++d::l.drop (j+1):=by
    conv=>lhs;rw[hl]
    rw[List.set_append_right _ _ (by rw[hlen];exact Nat.le_refl _),hlen,Nat.sub_self]
    rfl
  rw[hs]
  conv=>rhs;rw[hl]
  rw[val_append,val_append,val,val,hlen,Nat.mul_add,Nat.mul_add]
  omega
theorem val_replicate (k:Nat):val (List.replicate k 0)=0:=val_zero fun d hd=>(List.mem_replicate.1 hd).2
theorem getD_lt {l:List Nat}(hb:∀d∈l,d<B)(j:Nat):l.getD j 0<B:=by
  rcases Nat.lt_or_ge j l.length with h|h
  · rw[List.getD_eq_getElem?_getD,List.getElem?_eq_getElem h]
    exact hb _ (List.getElem_mem h)
  · rw[List.getD_eq_getElem?_getD,List.getElem?_eq_none h]
    exact B_pos
theorem set_lt {l:List Nat}(hb:∀d∈l,d<B){j d:Nat}(hd:d<B):∀x∈l.set j d,x<B:=by
  intro x hx
  rcases List.mem_or_eq_of_mem_set hx with h|h
  · exact hb x h
  · rw[h];exact hd
theorem val_take_succ {l:List Nat}{k:Nat}(hk:k<l.length):val (l.take (k+1))=val (l.take k)+B^k*l.getD k 0:=by
  rw[List.take_add_one,val_append,List.length_take,Nat.min_eq_left (by omega)]
  congr 2
  simp[List.getD,hk,val]
theorem val_drop {l:List Nat}{k:Nat}(hk:k<l.length):val (l.drop k)=l.getD k 0+B*val (l.drop (k+1)):=by
  rw[List.drop_eq_getElem_cons hk,val]
  simp[List.getD,hk]
theorem mul_room {x y o c:Nat}(hx:x<B)(hy:y<B)(ho:o<B)(hc:c<B):x*y+o+c<B*B:=by
  have h:=Nat.mul_le_mul (Nat.le_pred_of_lt hx) (Nat.le_pred_of_lt hy)
  have e:B.pred*B.pred=18446744065119617025:=by decide
  have b:B*B=18446744073709551616:=by decide
  have d:B=4294967296:=rfl
  rw[e]at h
  omega
theorem mul_step {out:List Nat}{i k x y V c b:Nat}(hlen:i+k<out.length)(h:val out+B^(i+k)*c=V+B^i*(x*b)):
    val (out.set (i+k) ((x*y+out.getD (i+k) 0+c)%B))+B^(i+(k+1))*((x*y+out.getD (i+k) 0+c)/B)=V+B^i*(x*(b+B^k*y)):=by
  have d:=val_set hlen ((x*y+out.getD (i+k) 0+c)%B)
  generalize hn:x*y+out.getD (i+k) 0+c=n at*
  have e:B^(i+(k+1))*(n/B)=B^(i+k)*(B*(n/B)):=by rw[<-Nat.add_assoc,Nat.pow_succ,Nat.mul_assoc]
  have f:B^(i+k)*(n%B)+B^(i+k)*(B*(n/B))=B^(i+k)*n:=by rw[<-Nat.mul_add,Nat.mod_add_div]
  have j:B^i*(x*(b+B^k*y))=B^i*(x*b)+B^(i+k)*(x*y):=by
    rw[Nat.mul_add,Nat.mul_add,Nat.pow_add]
    congr 1
    simp[Nat.mul_comm,Nat.mul_left_comm,Nat.mul_assoc]
  have l:B^(i+k)*n=B^(i+k)*(x*y)+B^(i+k)*out.getD (i+k) 0+B^(i+k)*c:=by rw[<-hn,Nat.mul_add,Nat.mul_add]
  omega
theorem mul_row {out:List Nat}{i m x V c b b':Nat}(hlen:i+m<out.length)(h0:out.getD (i+m) 0=0)(h:val out+B^(i+m)*c=V*b+B^i*(x*b)):val (out.set (i+m) c)=(V+B^i*x)*b:=by
  have d:=val_set hlen c
  rw[h0,Nat.mul_zero]at d
  rw[Nat.add_mul,Nat.mul_assoc]
  omega
theorem div_mod {a b q r:Nat}(h:a=b*q+r)(hr:r<b):a/b=q/\a%b=r:=by
  subst h
  constructor
  · rw[Nat.mul_add_div (by omega),Nat.div_eq_of_lt hr,Nat.add_zero]
  · rw[Nat.mul_add_mod,Nat.mod_eq_of_lt hr]
theorem digs_up {r d:Nat}(hd:d<B)(h:¬(r=0/\d=0)):d::digs r=digs (d+B*r):=by
  have hne:d+B*r≠0:=by
    intro b
    apply h
    refine⟨?_,by omega⟩
    rcases Nat.mul_eq_zero.1 (show B*r=0 by omega)with k|k
    · exact absurd k (by decide)
    · exact k
  rw[digs_pos hne,Nat.add_mul_mod_self_left,Nat.mod_eq_of_lt hd,Nat.add_mul_div_left _ _ B_pos,Nat.div_eq_of_lt hd,Nat.zero_add]
end Go.Nsp

namespace Go.Nsp
theorem sub32_diff (x y b:BitVec 32):(x-y-b).toNat=(x.toNat+(4294967296-y.toNat)+(4294967296-b.toNat))%4294967296:=by
  rw[BitVec.toNat_sub,BitVec.toNat_sub]
  have:=x.isLt
  have:=y.isLt
  have:=b.isLt
  omega
theorem sub32_borrow (x y b:BitVec 32)(hb:b.toNat<=1):(((~~~x&&&y)|||(~~~(x^^^y)&&&(x-y-b)))>>>31).toNat=if x.toNat<y.toNat+b.toNat then 1 else 0:=by
  have hd:=sub32_diff x y b
  generalize x-y-b=d at*
  have hm:((~~~x&&&y)|||(~~~(x^^^y)&&&d)).msb=((!x.msb&&y.msb)||(!(x.msb^^y.msb)&&d.msb)):=by simp
  generalize ((~~~x&&&y)|||(~~~(x^^^y)&&&d))=v at*
  rw[BitVec.toNat_ushiftRight,Nat.shiftRight_eq_div_pow]
  simp only[BitVec.msb_eq_decide]at hm
  have i:=x.isLt
  have j:=y.isLt
  have k:=d.isLt
  have l:=v.isLt
  generalize x.toNat=X at*
  generalize y.toNat=Y at*
  generalize b.toNat=C at*
  generalize d.toNat=D at*
  generalize v.toNat=V at*
  by_cases c:2147483648<=X<;>by_cases e:2147483648<=Y<;>by_cases f:2147483648<=D<;>by_cases h:2147483648<=V<;>simp[c,e,f,h]at hm<;>split<;>omega
theorem sub_key {x y c:Nat}(hx:x<4294967296)(hy:y<4294967296)(hc:c<=1):(x+(4294967296-y)+(4294967296-c))%4294967296+y+c=x+4294967296*(if x<y+c then 1 else 0):=by
  have b:4294967296-y+y=4294967296:=by omega
  have d:4294967296-c+c=4294967296:=by omega
  generalize 4294967296-y=u at*
  generalize 4294967296-c=v at*
  split<;>omega
theorem sub_step {out a b:List Nat}{i x y c V W:Nat}(hlen:i<out.length)(h0:out.getD i 0=0)(h:val out+W=V+B^i*c)(hx:x<B)(hy:y<B)(hc:c<=1):
    val (out.set i ((x+(B-y)+(B-c))%B))+(W+B^i*y)=(V+B^i*x)+B^(i+1)*(if x<y+c then 1 else 0):=by
  have d:=val_set hlen ((x+(B-y)+(B-c))%B)
  rw[h0,Nat.mul_zero,Nat.add_zero]at d
  have hB:B=4294967296:=rfl
  have key:(x+(B-y)+(B-c))%B+y+c=x+B*(if x<y+c then 1 else 0):=sub_key hx hy hc
  have e:B^(i+1)*(if x<y+c then 1 else 0)=B^i*(B*(if x<y+c then 1 else 0)):=by rw[Nat.pow_succ,Nat.mul_assoc]
  rw[e]
  generalize B*(if x<y+c then 1 else 0)=bb at*
  generalize (x+(B-y)+(B-c))%B=r at*
  have f:B^i*r+B^i*y+B^i*c=B^i*x+B^i*bb:=by rw[<-Nat.mul_add,<-Nat.mul_add,key,Nat.mul_add]
  omega
end Go.Nsp
namespace Go.Nsp
structure Gr (pr:Nat->Bool)(i d:Nat):Prop where
  i32:i<=32
  dv:2^(32-i)∣d
  top:d+2^(32-i)<=4294967296
  yes:pr d=true
  no:d+2^(32-i)=4294967296\/pr (d+2^(32-i))=false
theorem Gr.zero {pr:Nat->Bool}(h:pr 0=true):Gr pr 0 0:=⟨by omega,Nat.dvd_zero _,by decide,h,.inl (by decide)⟩
theorem pow_half {i:Nat}(h:i<32):2^(32-i)=2^(31-i)+2^(31-i):=by
  rw[show 32-i=(31-i)+1 by omega,Nat.pow_succ]
  omega
theorem Gr.lt {pr:Nat->Bool}{i d:Nat}(g:Gr pr i d)(h:i<32):d<4294967296/\2^(31-i)<4294967296/\d+2^(31-i)<4294967296/\2^((31-i)+1)∣d:=by
  have c:=g.top
  rw[pow_half h]at c
  have e:0<2^(31-i):=Nat.pow_pos (by decide)
  have b:=g.dv
  rw[show 32-i=(31-i)+1 by omega]at b
  exact⟨by omega,by omega,by omega,b⟩
theorem Gr.yesB {pr:Nat->Bool}{i d:Nat}(g:Gr pr i d)(h:i<32)(hp:pr (d+2^(31-i))=true):Gr pr (i+1) (d+2^(31-i)):=by
  have e:32-(i+1)=31-i:=by omega
  have b:=g.top
  have c:=g.no
  rw[pow_half h,<-Nat.add_assoc]at b c
  refine⟨by omega,?_,by rw[e];exact b,hp,by rw[e];exact c⟩
  rw[e]
  exact Nat.dvd_add (Nat.dvd_trans (Nat.pow_dvd_pow 2 (by omega)) g.dv) (Nat.dvd_refl _)
theorem Gr.noB {pr:Nat->Bool}{i d:Nat}(g:Gr pr i d)(h:i<32)(hp:pr (d+2^(31-i))=false):Gr pr (i+1) d:=by
  have e:32-(i+1)=31-i:=by omega
  have b:=g.top
  rw[pow_half h]at b
  have c:0<2^(31-i):=Nat.pow_pos (by decide)
  refine⟨by omega,?_,by rw[e];omega,g.yes,by rw[e];exact .inr hp⟩
  rw[e]
  exact Nat.dvd_trans (Nat.pow_dvd_pow 2 (by omega)) g.dv
theorem Gr.done {pr:Nat->Bool}{i d:Nat}(g:Gr pr i d)(h:¬i<32):d<4294967296/\pr d=true/\(d+1=4294967296\/pr (d+1)=false):=by
  have e:32-i=0:=by omega
  have c:=g.top
  have b:=g.no
  rw[e]at c b
  simp only[Nat.pow_zero]at c b
  exact⟨by omega,g.yes,b⟩
end Go.Nsp

namespace Go.Nsp
structure Fr where
  n:Nat
  d:Nat
deriving DecidableEq
def okF (f:Fr):Prop:=0<f.d/\Nat.gcd f.n f.d=1
def lowF (n d:Nat):Fr:=⟨n/Nat.gcd n d,d/Nat.gcd n d⟩
def mulF (a b:Fr):Fr:=lowF (a.n*b.n) (a.d*b.d)
def leF (a b:Fr):Prop:=a.n*b.d<=b.n*a.d
def ltF (a b:Fr):Prop:=a.n*b.d<b.n*a.d
instance (a b : Fr) : Decidable (leF a b) := by unfold leF; infer_instance
instance (a b : Fr) : Decidable (ltF a b) := by unfold ltF; infer_instance
def cmpN (a b:Nat):Int:=if a<b then-1 else if b<a then 1 else 0
def cmpF (a b:Fr):Int:=cmpN (a.n*b.d) (b.n*a.d)
theorem gcd_pos {n d:Nat}(h:0<d):0<Nat.gcd n d:=Nat.gcd_pos_of_pos_right _ h
theorem okF_low {n d:Nat}(h:0<d):okF (lowF n d):=by
  have hg:=gcd_pos (n:=n) h
  refine⟨Nat.div_pos (Nat.le_of_dvd h (Nat.gcd_dvd_right n d)) hg,?_⟩
  show Nat.gcd (n/Nat.gcd n d) (d/Nat.gcd n d)=1
  rw[Nat.gcd_div (Nat.gcd_dvd_left n d) (Nat.gcd_dvd_right n d)]
  exact Nat.div_self hg
theorem low_eq {n d:Nat}:(lowF n d).n*d=n*(lowF n d).d:=by
  show n/Nat.gcd n d*d=n*(d/Nat.gcd n d)
  have b:=Nat.div_mul_cancel (Nat.gcd_dvd_left n d)
  have c:=Nat.div_mul_cancel (Nat.gcd_dvd_right n d)
  generalize Nat.gcd n d=g at*
  generalize n/g=x at*
  generalize d/g=y at*
  rw[<-b,<-c,Nat.mul_assoc,Nat.mul_comm g y,Nat.mul_comm y g]
theorem low_ok {f:Fr}(h:okF f):lowF f.n f.d=f:=by
  unfold lowF
  rw[h.2,Nat.div_one,Nat.div_one]
theorem leF_trans {a b c:Fr}(hb:0<b.d)(h:leF a b)(k:leF b c):leF a c:=by
  unfold leF at*
  refine Nat.le_of_mul_le_mul_right ?_ hb
  calc a.n*c.d*b.d=a.n*b.d*c.d:=Nat.mul_right_comm _ _ _
    _<=b.n*a.d*c.d:=Nat.mul_le_mul_right _ h
    _=b.n*c.d*a.d:=Nat.mul_right_comm _ _ _
    _<=c.n*b.d*a.d:=Nat.mul_le_mul_right _ k
    _=c.n*a.d*b.d:=Nat.mul_right_comm _ _ _
theorem ltF_not {a b:Fr}:ltF a b↔¬leF b a:=by unfold ltF leF;omega
theorem leF_antisymm {a b:Fr}(ha:okF a)(hb:okF b)(h:leF a b)(k:leF b a):a=b:=by
  have e:a.n*b.d=b.n*a.d:=Nat.le_antisymm h k
  have c:Nat.Coprime a.n a.d:=ha.2
  have f:Nat.Coprime b.n b.d:=hb.2
  have i:a.d∣b.d:=c.symm.dvd_of_dvd_mul_left (by rw[e];exact Nat.dvd_mul_left _ _)
  have j:b.d∣a.d:=f.symm.dvd_of_dvd_mul_left (by rw[<-e];exact Nat.dvd_mul_left _ _)
  have ed:=Nat.dvd_antisymm i j
  rw[ed]at e
  have en:=Nat.eq_of_mul_eq_mul_right hb.1 e
  cases a;cases b;simp_all
theorem cmpF_neg {a b:Fr}:cmpF a b<0↔ltF a b:=by unfold cmpF cmpN ltF;split<;>(try split)<;>omega
theorem cmpF_pos {a b:Fr}:0<cmpF a b↔ltF b a:=by unfold cmpF cmpN ltF;split<;>(try split)<;>omega
theorem okF_mul {a b:Fr}(ha:okF a)(hb:okF b):okF (mulF a b):=okF_low (Nat.mul_pos ha.1 hb.1)
theorem mul_eq (a b:Fr):(mulF a b).n*(a.d*b.d)=a.n*b.n*(mulF a b).d:=low_eq
theorem eq_of_cross {a b:Fr}(ha:okF a)(hb:okF b)(h:a.n*b.d=b.n*a.d):a=b:=leF_antisymm ha hb (Nat.le_of_eq h) (Nat.le_of_eq h.symm)
theorem cross_trans {a b:Fr}{n d:Nat}(hd:0<d)(h:a.n*d=n*a.d)(k:b.n*d=n*b.d):a.n*b.d=b.n*a.d:=by
  refine Nat.eq_of_mul_eq_mul_right hd ?_
  calc a.n*b.d*d=a.n*d*b.d:=Nat.mul_right_comm _ _ _
    _=n*a.d*b.d:=by rw[h]
    _=n*b.d*a.d:=Nat.mul_right_comm _ _ _
    _=b.n*d*a.d:=by rw[k]
    _=b.n*a.d*d:=Nat.mul_right_comm _ _ _
end Go.Nsp

namespace Go.Msp
open Go.Gsp Go.Nsp
structure Wy where
  f:Int
  c:Int
deriving DecidableEq
structure Nt where
  lo:Int
  hi:Int
  rm:Int
deriving DecidableEq
def noWy:Wy:=⟨0,0⟩
def noNt:Nt:=⟨0,0,0⟩
abbrev MF:=Wy->Option Nt
def wyE (e:Gsp.Edge):Wy:=⟨e.f,e.c⟩
def ptyB (n:Int):Bool:=decide (0<=n)&&decide (n<12)
def mayM (e:Gsp.Edge):Bool:=ptyB e.f&&ptyB e.t&&decide (e.f≠e.t)&&decide (0<=e.c)&&decide (e.c<1048576)&&decide (0<e.r)&&decide (e.r<=1125899906842624)
def cnt (o:Option Nt)(rm:Int):Nt:=
  match o with
  |none=>⟨0,rm+1,rm⟩
  |some n=>⟨min n.lo rm,max (min n.hi (rm+1)) (min n.lo rm+1),rm⟩
def ofM (m:MF)(w:Wy)(rm:Int):Nt:=cnt (m w) rm
def someM (e:Gsp.Edge)(a:Int):Bool:=mayM e&&decide (0<a)&&decide (a<=e.r)
def setM (m:MF)(k:Wy)(n:Nt):MF:=fun x=>if x=k then some n else m x
def failN (e:Gsp.Edge)(a:Int)(n:Nt):Nt:=⟨min n.lo (a-1),min n.hi a,e.r⟩
def passN (e:Gsp.Edge)(a:Int)(n:Nt):Nt:=⟨max n.lo a,max n.hi (a+1),e.r⟩
def failM (m:MF)(e:Gsp.Edge)(a:Int):MF:=if someM e a=true then setM m (wyE e) (failN e a (ofM m (wyE e) e.r))else m
def passM (m:MF)(e:Gsp.Edge)(a:Int):MF:=if someM e a=true then setM m (wyE e) (passN e a (ofM m (wyE e) e.r))else m
def bndM (m:MF)(e:Gsp.Edge):Int×Int:=if mayM e=true then((ofM m (wyE e) e.r).lo,(ofM m (wyE e) e.r).hi)else(0,0)
def oddN (m:MF)(e:Gsp.Edge)(a:Int):Int:=(bndM m e).2-min (max a (bndM m e).1) (bndM m e).2
def oddD (m:MF)(e:Gsp.Edge):Int:=(bndM m e).2-(bndM m e).1
def goesM (e:Gsp.Edge)(a:Int):Bool:=mayM e&&decide (0<=a)&&decide (a<=e.r)
def oddsM (m:MF)(e:Gsp.Edge)(a:Int):Fr:=if goesM e a=true then lowF (oddN m e a).toNat (oddD m e).toNat else⟨0,0⟩
def okNt (n:Nt):Prop:=0<=n.lo/\n.lo<n.hi/\n.hi<=n.rm+1/\n.rm<=1125899906842624
def GoodM (m:MF):Prop:=∀w n,m w=some n->okNt n
theorem mayM_T {e:Gsp.Edge}(h:mayM e=true):(0<=e.f/\e.f<12)/\(0<=e.t/\e.t<12)/\e.f≠e.t/\(0<=e.c/\e.c<1048576)/\0<e.r/\e.r<=1125899906842624:=by
  simp only[mayM,ptyB,Bool.and_eq_true,decide_eq_true_eq]at h
  obtain⟨⟨⟨⟨⟨⟨b,d⟩,i⟩,j⟩,k⟩,l⟩,m⟩:=h
  exact⟨b,d,i,⟨j,k⟩,l,m⟩
theorem someM_T {e:Gsp.Edge}{a:Int}(h:someM e a=true):mayM e=true/\0<a/\a<=e.r:=by
  simp only[someM,Bool.and_eq_true,decide_eq_true_eq]at h
  exact⟨h.1.1,h.1.2,h.2⟩
theorem cnt_ok {o:Option Nt}{rm:Int}(ho:∀n,o=some n->okNt n)(h0:0<rm)(h1:rm<=1125899906842624):okNt (cnt o rm)/\(cnt o rm).rm=rm/\(cnt o rm).lo<=rm:=by
  cases o with
  |none=>
    show(0<=(0:Int)/\0<rm+1/\rm+1<=rm+1/\rm<=1125899906842624)/\rm=rm/\0<=rm
    omega
  |some n=>
    have:=ho n rfl
    unfold okNt at this
    show(0<=min n.lo rm/\min n.lo rm<max (min n.hi (rm+1)) (min n.lo rm+1)/\max (min n.hi (rm+1)) (min n.lo rm+1)<=rm+1/\rm<=1125899906842624)/\rm=rm/\min n.lo rm<=rm
    omega
theorem ofM_ok {m:MF}(hm:GoodM m)(w:Wy){rm:Int}(h0:0<rm)(h1:rm<=1125899906842624):okNt (ofM m w rm)/\(ofM m w rm).rm=rm/\(ofM m w rm).lo<=rm:=cnt_ok (fun n hn=>hm w n hn) h0 h1
theorem setM_good {m:MF}(hm:GoodM m){k:Wy}{n:Nt}(hn:okNt n):GoodM (setM m k n):=by
  intro w x hx
  unfold setM at hx
  split at hx
  · cases hx;exact hn
  · exact hm w x hx
theorem failN_ok {m:MF}(hm:GoodM m){e:Gsp.Edge}{a:Int}(h:someM e a=true):okNt (failN e a (ofM m (wyE e) e.r)):=by
  obtain⟨b,f,i⟩:=someM_T h
  obtain⟨_,_,_,_,c,d⟩:=mayM_T b
  have:=ofM_ok hm (wyE e) c d
  unfold okNt at*
  unfold failN
  simp only
  omega
theorem passN_ok {m:MF}(hm:GoodM m){e:Gsp.Edge}{a:Int}(h:someM e a=true):okNt (passN e a (ofM m (wyE e) e.r)):=by
  obtain⟨b,f,i⟩:=someM_T h
  obtain⟨_,_,_,_,c,d⟩:=mayM_T b
  have:=ofM_ok hm (wyE e) c d
  unfold okNt at*
  unfold passN
  simp only
  omega
theorem failM_good {m:MF}(hm:GoodM m)(e:Gsp.Edge)(a:Int):GoodM (failM m e a):=by
  unfold failM
  split
  · exact setM_good hm (failN_ok hm (by assumption))
  · exact hm
theorem passM_good {m:MF}(hm:GoodM m)(e:Gsp.Edge)(a:Int):GoodM (passM m e a):=by
  unfold passM
  split
  · exact setM_good hm (passN_ok hm (by assumption))
  · exact hm
theorem bndM_ok {m:MF}(hm:GoodM m){e:Gsp.Edge}(h:mayM e=true):0<=(bndM m e).1/\(bndM m e).1<(bndM m e).2/\(bndM m e).1<=e.r/\(bndM m e).2<=e.r+1:=by
  obtain⟨_,_,_,_,b,c⟩:=mayM_T h
  have d:=ofM_ok hm (wyE e) b c
  unfold okNt at d
  unfold bndM
  rw[if_pos h]
  simp only
  omega
end Go.Msp

