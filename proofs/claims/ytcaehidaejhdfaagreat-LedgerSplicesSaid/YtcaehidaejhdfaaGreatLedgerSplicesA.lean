/- LedgerSplices: for every input the law answers true and leaves its arguments as they were. -/

set_option linter.unusedVariables false
set_option linter.unusedSimpArgs false
namespace Go.Num
def oP (p:Nat):Prop:=2<=p/\∀d,d∣p->d=1\/d=p
theorem oP.coprime {p x:Nat}(h:oP p)(hx:¬p∣x):Nat.Coprime p x:=by
  rcases h.2 (Nat.gcd p x) (Nat.gcd_dvd_left p x)with b|b
  · exact b
  · exact absurd (b▸Nat.gcd_dvd_right p x) hx
def pm (m:Nat):Nat->Nat->Nat->Nat->Nat
  |0,_,_,out=>out
  |f+1,a,n,out=>pm m f (a*a%m) (n/2) (if n%2=1 then out*a%m else out)
theorem IE (m:Nat):∀(f a n out:Nat),n<2^f->out<m->pm m f a n out=out*a^n%m
  |0,a,n,out,h,ho=>by
    have:n=0:=by simpa using h
    subst this
    simp[pm,Nat.mod_eq_of_lt ho]
  |f+1,a,n,out,h,ho=>by
    have hm:0<m:=by omega
    have hn:n/2<2^f:=by rw[Nat.pow_succ]at h;omega
    rw[pm]
    by_cases hp:n%2=1
    · rw[if_pos hp,IE m f _ _ _ hn (Nat.mod_lt _ hm)]
      have e:a^n=a*(a*a)^(n/2):=by
        have b:n=2*(n/2)+1:=by omega
        conv=>lhs;rw[b]
        rw[Nat.pow_succ,Nat.pow_mul,Nat.pow_two,Nat.mul_comm]
      rw[e,Nat.mul_mod,Nat.mod_mod,<-Nat.pow_mod,<-Nat.mul_mod,Nat.mul_assoc]
    · rw[if_neg hp,IE m f _ _ _ hn ho]
      have e:a^n=(a*a)^(n/2):=by
        have b:n=2*(n/2):=by omega
        conv=>lhs;rw[b]
        rw[Nat.pow_mul,Nat.pow_two]
      rw[e,Nat.mul_mod,<-Nat.pow_mod,<-Nat.mul_mod]
theorem OT:∀(n:Nat) (f:Nat->Nat),(∀i,i<n->f i<n)->(∀i j,i<n->j<n->f i=f j->i=j)->∀y,y<n->∃i,i<n/\f i=y
  |0,_,_,_,y,hy=>by omega
  |n+1,f,hf,hi,y,hy=>by
    by_cases hyn:f n=y
    · exact⟨n,by omega,hyn⟩
    · --where n is taken,put f n in its place
      have hf':∀i,i<n->(if f i=n then f n else f i)<n:=by
        intro i h
        split
        · rename_i he
          have c:=hf n (by omega)
          have b:f n≠n:=fun e=>by have:=hi i n (by omega) (by omega) (by omega);omega
          omega
        · have:=hf i (by omega);omega
      have hi':∀i j,i<n->j<n->(if f i=n then f n else f i)=(if f j=n then f n else f j)->i=j:=by
        intro i j c b he
        split at he<;>split at he
        · exact hi i j (by omega) (by omega) (by omega)
        · have:=hi n j (by omega) (by omega) he;omega
        · have:=hi i n (by omega) (by omega) he;omega
        · exact hi i j (by omega) (by omega) he
      have ih:=OT n (fun i=>if f i=n then f n else f i) hf' hi'
      by_cases d:y<n
      · obtain⟨i,c,b⟩:=ih y d
        by_cases hh:f i=n
        · rw[if_pos hh]at b;exact absurd b hyn
        · rw[if_neg hh]at b;exact⟨i,by omega,b⟩
      · have ZK:y=n:=by omega
        subst ZK
        obtain⟨i,c,b⟩:=ih (f y) (by have:=hf y (by omega);omega)
        by_cases hh:f i=y
        · exact⟨i,by omega,hh⟩
        · rw[if_neg hh]at b
          have:=hi i y (by omega) (by omega) b
          omega
theorem least {p:Nat->Prop}[DecidablePred p](n:Nat)(h:p n):∃k,k<=n/\p k/\∀j,j<k->¬p j:=by
  induction n using Nat.strongRecOn with
  |ind n ih=>
    by_cases hs:∃j,j<n/\p j
    · obtain⟨j,hj,hp⟩:=hs
      obtain⟨k,d,b,c⟩:=ih j hj hp
      exact⟨k,by omega,b,c⟩
    · exact⟨n,Nat.le_refl _,h,fun j hj hp=>hs ⟨j,hj,hp⟩⟩
theorem Ca {a m d k:Nat}(hm:1<m)(h:a^d%m=1)(hk:a^k%m=1)(hl:∀j,j<d->0<j->¬a^j%m=1)(hd:0<d):d∣k:=by
  rw[Nat.dvd_iff_mod_eq_zero]
  have e:a^k%m=a^(k%d)%m:=by
    have b:k=d*(k/d)+k%d:=(Nat.div_add_mod k d).symm
    conv=>lhs;rw[b]
    rw[Nat.pow_add,Nat.pow_mul,Nat.mul_mod,Nat.pow_mod (a^d),h,Nat.one_pow,Nat.mod_eq_of_lt hm,Nat.one_mul,Nat.mod_mod]
  by_cases hz:k%d=0
  · exact hz
  · exact absurd (e▸hk) (hl _ (Nat.mod_lt _ hd) (by omega))
theorem IG:∀(fs:List Nat) (m:Nat),(∀r∈fs,oP r)->1<m->m∣fs.foldr (· * ·) 1->∃r∈fs,r∣m
  |[],m,_,hm,hd=>by
    have:m=1:=Nat.dvd_one.1 hd
    omega
  |r::fs,m,hp,hm,hd=>by
    by_cases hr:r∣m
    · exact⟨r,by simp,hr⟩
    · have hc:Nat.Coprime m r:=((hp r (by simp)).coprime hr).symm
      obtain⟨q,b,c⟩:=IG fs m (fun q hq=>hp q (by simp[hq])) hm (hc.dvd_of_dvd_mul_left hd)
      exact⟨q,by simp[b],c⟩
theorem WT (n a:Nat)(fs:List Nat)(hn:2<n)(hf:fs.foldr (· * ·) 1=n-1)(hp:∀r∈fs,oP r)(h1:a^(n-1)%n=1)(h2:∀r∈fs,¬a^((n-1)/r)%n=1):oP n:=by
  obtain⟨d,hd,⟨f,c⟩,hl⟩:=least (p:=fun k=>0<k/\a^k%n=1) (n-1) ⟨by omega,h1⟩
  have hl':∀j,j<d->0<j->¬a^j%n=1:=fun j hj l h=>hl j hj ⟨l,h⟩
  have hdn:d∣n-1:=Ca (by omega) c h1 hl' f
  have hde:d=n-1:=by
    obtain⟨m,hm⟩:=hdn
    by_cases o:m=1
    · rw[hm,o,Nat.mul_one]
    · have y:m≠0:=fun h=>by rw[h]at hm;simp at hm;omega
      obtain⟨r,hr,t,ht⟩:=IG fs m hp (by omega) (by rw[hf,hm];exact Nat.dvd_mul_left m d)
      have s:0<r:=by have:=(hp r hr).1;omega
      have e:(n-1)/r=d*t:=by
        rw[hm,ht,Nat.mul_left_comm,Nat.mul_comm r,Nat.mul_div_cancel _ s]
      exact absurd (by rw[e,Nat.pow_mul,Nat.pow_mod,c,Nat.one_pow,Nat.mod_eq_of_lt (by omega)]) (h2 r hr)
  subst hde
  --every number below n is a abD
  have unit:∀i,i<=n-1->(a^i%n)*(a^(n-1-i))%n=1:=by
    intro i hi
    rw[Nat.mul_mod,Nat.mod_mod,<-Nat.mul_mod,<-Nat.pow_add,show i+(n-1-i)=n-1 by omega,h1]
  have pos:∀i,i<=n-1->0<a^i%n:=by
    intro i hi
    rcases Nat.eq_zero_or_pos (a^i%n)with h|h
    · have:=unit i hi;rw[h]at this;simp at this
    · exact h
  have inj:∀i j,i<n-1->j<n-1->i<=j->a^i%n=a^j%n->i=j:=by
    intro i j hi hj hij he
    have b:a^(j-i)%n=1:=by
      have hu:=unit i (by omega)
      rw[he]at hu
      rw[Nat.mul_mod,Nat.mod_mod,<-Nat.mul_mod,<-Nat.pow_add,show j+(n-1-i)=(n-1)+(j-i) by omega,Nat.pow_add,Nat.mul_mod,h1,Nat.one_mul,Nat.mod_mod]at hu
      exact hu
    by_cases hz:j-i=0
    · omega
    · exact absurd b (hl' _ (by omega) (by omega))
  have all:=OT (n-1) (fun i=>a^i%n-1) (fun i hi=>by have:=pos i (by omega);have:=Nat.mod_lt (a^i) (show 0<n by omega);omega)
    (fun i j hi hj he=>by
      have b:=pos i (by omega)
      have z:=pos j (by omega)
      rcases Nat.le_total i j with h|h
      · exact inj i j hi hj h (by omega)
      · exact(inj j i hj hi h (by omega)).symm)
  refine⟨by omega,fun e he=>?_⟩
  by_cases u:e=n
  · exact .inr u
  · have abJ:e<=n:=Nat.le_of_dvd (by omega) he
    have A:0<e:=Nat.pos_of_dvd_of_pos he (by omega)
    obtain⟨i,hi,hie⟩:=all (e-1) (by omega)
    have b:=pos i (by omega)
    have hu:=unit i (by omega)
    rw[show a^i%n=e by omega]at hu
    left
    have v:e∣1:=by
      have x:e∣e*a^(n-1-i)%n:=(Nat.dvd_mod_iff he).2 (Nat.dvd_mul_right _ _)
      rwa [hu]at x
    exact Nat.dvd_one.1 v
theorem vK (n a f:Nat)(fs:List Nat)(hn:2<n)(hff:n<2^f)(hf:fs.foldr (· * ·) 1=n-1)(hp:∀r∈fs,oP r)(h1:pm n f a (n-1) 1=1)(h2:∀r∈fs,¬pm n f a ((n-1)/r) 1=1):oP n:=by
  refine WT n a fs hn hf hp ?_ ?_
  · rw[IE n f a _ 1 (by omega) (by omega),Nat.one_mul]at h1
    exact h1
  · intro r hr
    have:=h2 r hr
    rw[IE n f a _ 1 (Nat.lt_of_le_of_lt (Nat.div_le_self _ _) (by omega)) (by omega),Nat.one_mul]at this
    exact this
end Go.Num

namespace Go.Num
theorem nk (p:Nat)(h2:2<=p)(h:(List.range p).all (fun d=>decide (d<2)||decide (p%d≠0))=true):oP p:=by
  refine⟨h2,fun d hd=>?_⟩
  have hle:=Nat.le_of_dvd (by omega) hd
  by_cases b:d=p
  · exact .inr b
  · rw[List.all_eq_true]at h
    have:=h d (List.mem_range.2 (by omega))
    rw[Nat.dvd_iff_mod_eq_zero]at hd
    have c:d≠0:=fun h=>by subst h;simp at hd;omega
    simp[hd]at this
    left;omega
theorem yw:oP 2:=nk 2 (by decide) (by decide+kernel)
theorem LB:oP 3:=nk 3 (by decide) (by decide+kernel)
theorem RZ:oP 5:=nk 5 (by decide) (by decide+kernel)
theorem R3:oP 7:=nk 7 (by decide) (by decide+kernel)
theorem OU:oP 11:=nk 11 (by decide) (by decide+kernel)
theorem OV:oP 17:=nk 17 (by decide) (by decide+kernel)
theorem OW:oP 23:=nk 23 (by decide) (by decide+kernel)
theorem OX:oP 73:=nk 73 (by decide) (by decide+kernel)
theorem MU:oP 821:=nk 821 (by decide) (by decide+kernel)
theorem Kg:oP 2311:=nk 2311 (by decide) (by decide+kernel)
theorem GQ:oP 172411:=by
  refine vK 172411 3 18 [2,3,5,7,821] (by decide) (by decide) (by decide) ?_ (by decide+kernel) ?_
  · intro r hr
    simp at hr
    rcases hr with rfl|rfl|rfl|rfl|rfl
    · exact yw
    · exact LB
    · exact RZ
    · exact R3
    · exact MU
  · intro r hr
    simp at hr
    rcases hr with rfl|rfl|rfl|rfl|rfl
    · decide+kernel
    · decide+kernel
    · decide+kernel
    · decide+kernel
    · decide+kernel
theorem Fy:oP 7930907:=by
  refine vK 7930907 2 23 [2,23,172411] (by decide) (by decide) (by decide) ?_ (by decide+kernel) ?_
  · intro r hr
    simp at hr
    rcases hr with rfl|rfl|rfl
    · exact yw
    · exact OW
    · exact GQ
  · intro r hr
    simp at hr
    rcases hr with rfl|rfl|rfl
    · decide+kernel
    · decide+kernel
    · decide+kernel
theorem Aj:oP 11864636873:=by
  refine vK 11864636873 5 34 [2,2,2,11,17,7930907] (by decide) (by decide) (by decide) ?_ (by decide+kernel) ?_
  · intro r hr
    simp at hr
    rcases hr with rfl|rfl|rfl|rfl
    · exact yw
    · exact OU
    · exact OV
    · exact Fy
  · intro r hr
    simp at hr
    rcases hr with rfl|rfl|rfl|rfl
    · decide+kernel
    · decide+kernel
    · decide+kernel
    · decide+kernel
theorem yO:oP 1732236983459:=by
  refine vK 1732236983459 2 41 [2,73,11864636873] (by decide) (by decide) (by decide) ?_ (by decide+kernel) ?_
  · intro r hr
    simp at hr
    rcases hr with rfl|rfl|rfl
    · exact yw
    · exact OX
    · exact Aj
  · intro r hr
    simp at hr
    rcases hr with rfl|rfl|rfl
    · decide+kernel
    · decide+kernel
    · decide+kernel
theorem xA:oP 249442125618097:=by
  refine vK 249442125618097 5 48 [2,2,2,2,3,3,1732236983459] (by decide) (by decide) (by decide) ?_ (by decide+kernel) ?_
  · intro r hr
    simp at hr
    rcases hr with rfl|rfl|rfl
    · exact yw
    · exact LB
    · exact yO
  · intro r hr
    simp at hr
    rcases hr with rfl|rfl|rfl
    · decide+kernel
    · decide+kernel
    · decide+kernel
theorem uL:oP 2305843009213688669:=by
  refine vK 2305843009213688669 2 61 [2,2,2311,249442125618097] (by decide) (by decide) (by decide) ?_ (by decide+kernel) ?_
  · intro r hr
    simp at hr
    rcases hr with rfl|rfl|rfl
    · exact yw
    · exact Kg
    · exact xA
  · intro r hr
    simp at hr
    rcases hr with rfl|rfl|rfl
    · decide+kernel
    · decide+kernel
    · decide+kernel
end Go.Num

namespace Go.Num
def q:Nat:=2305843009213688669
def M:Nat:=4611686018427377339
theorem R4:oP q:=uL
theorem LC:0<q:=by decide
theorem DJ:1<M:=by decide
def pw (a n:Nat):Nat:=pm M 64 a n 1
theorem OY (a n:Nat)(h:n<18446744073709551616):pw a n=a^n%M:=by
  have b:n<2^64:=by rw[show(2:Nat)^64=18446744073709551616 by decide];exact h
  rw[pw,IE M 64 a n 1 b DJ,Nat.one_mul]
theorem step1 (a n out:Nat)(h:n%2=1):(out*a%M)*(a*a%M)^(n/2)%M=out*a^n%M:=by
  have e:a^n=a*(a*a)^(n/2):=by
    have b:n=2*(n/2)+1:=by omega
    conv=>lhs;rw[b]
    rw[Nat.pow_succ,Nat.pow_mul,Nat.pow_two,Nat.mul_comm]
  rw[e,Nat.mul_mod,Nat.mod_mod,<-Nat.pow_mod,<-Nat.mul_mod,Nat.mul_assoc]
theorem step0 (a n out:Nat)(h:¬n%2=1):out*(a*a%M)^(n/2)%M=out*a^n%M:=by
  have e:a^n=(a*a)^(n/2):=by
    have b:n=2*(n/2):=by omega
    conv=>lhs;rw[b]
    rw[Nat.pow_mul,Nat.pow_two]
  rw[e,Nat.mul_mod,<-Nat.pow_mod,<-Nat.mul_mod]
theorem II (a n:Nat)(h:n<18446744073709551616):1*a^n%M=pw a n:=by rw[OY a n h,Nat.one_mul]
theorem OZ (a out:Nat)(h:out<M):out*a^0%M=out:=by rw[Nat.pow_zero,Nat.mul_one,Nat.mod_eq_of_lt h]
theorem WU:q<18446744073709551616:=by decide
def right (p:Nat):Bool:=decide (0<p)&&decide (p<M)&&decide (pw p q=1)
theorem tZ (p:Nat):right p=true↔0<p/\p<M/\p^q%M=1:=by
  unfold right
  rw[OY p q WU]
  simp[and_assoc]
def taken (p:Nat):Nat:=if right p then p else 1
def scale (p k:Nat):Nat:=pw (taken p) (k%q)
def base (k:Nat):Nat:=scale 4 k
def rX (a b:Nat):Nat:=(a%q+b%q)%q
theorem MV:right 1=true:=by decide+kernel
theorem Kh:right 4=true:=by decide+kernel
theorem uQ (p:Nat):right (taken p)=true:=by
  unfold taken
  split
  · assumption
  · exact MV
theorem IJ {p:Nat}(h:right p=true):taken p=p:=by rw[taken,if_pos h]
theorem LD {p:Nat}(h:right p=true):p^q%M=1:=((tZ p).1 h).2.2
theorem MW {p:Nat}(h:right p=true)(k:Nat):p^(k%q)%M=p^k%M:=by
  have e:k=q*(k/q)+k%q:=(Nat.div_add_mod k q).symm
  conv=>rhs;rw[e]
  rw[Nat.pow_add,Nat.pow_mul,Nat.mul_mod,Nat.pow_mod (p^q),LD h,Nat.one_pow,Nat.mod_eq_of_lt DJ,Nat.one_mul,Nat.mod_mod]
theorem MX {p:Nat}(h:right p=true)(k:Nat):right (p^k%M)=true:=by
  rw[tZ]
  have b:(p^k%M)^q%M=1:=by
    rw[<-Nat.pow_mod,<-Nat.pow_mul,Nat.mul_comm,Nat.pow_mul,Nat.pow_mod,LD h,Nat.one_pow,Nat.mod_eq_of_lt DJ]
  refine⟨?_,Nat.mod_lt _ (by decide),b⟩
  rcases Nat.eq_zero_or_pos (p^k%M)with c|c
  · rw[c,Nat.zero_pow LC]at b
    simp at b
  · exact c
theorem O0 (k:Nat):k%q<18446744073709551616:=Nat.lt_trans (Nat.mod_lt _ LC) WU
theorem IK (p k:Nat):scale p k=taken p^k%M:=by
  rw[scale,OY _ _ (O0 k),MW (uQ p)]
theorem IL (p k:Nat):right (scale p k)=true:=by rw[IK];exact MX (uQ p) k
theorem DK (k:Nat):right (base k)=true:=IL 4 k
theorem MZ {p k:Nat}(h:right p=true)(h1:p≠1)(hk:k%q≠0):scale p k≠1:=by
  rw[IK,IJ h]
  intro he
  obtain⟨d,_,⟨e,b⟩,hl⟩:=least (p:=fun k=>0<k/\p^k%M=1) q ⟨LC,LD h⟩
  have hl':∀j,j<d->0<j->¬p^j%M=1:=fun j hj f h=>hl j hj ⟨f,h⟩
  have hdq:d∣q:=Ca DJ b (LD h) hl' e
  have hdk:d∣k:=Ca DJ b he hl' e
  rcases R4.2 d hdq with c|c
  · subst c
    rw[Nat.pow_one,Nat.mod_eq_of_lt ((tZ p).1 h).2.1]at b
    exact h1 b
  · subst c
    exact hk (Nat.dvd_iff_mod_eq_zero.1 hdk)
theorem IM {k:Nat}(hk:k%q≠0):base k≠1:=MZ Kh (by decide) hk
def nY (n:Nat):List (BitVec 8)->Nat
  |[]=>n
  |b::l=>nY ((256*n+b.toNat)%(q-1)) l
def nZ (l:List (BitVec 8)):Nat:=nY 0 l+1
theorem Cb:∀(l:List (BitVec 8)) (n:Nat),n<q-1->nY n l<q-1
  |[],_,h=>h
  |_::l,_,_=>Cb l _ (Nat.mod_lt _ (by decide))
theorem O1 (l:List (BitVec 8)):nZ l<q:=by
  have:=Cb l 0 (by decide)
  have:=LC
  unfold nZ;omega
theorem xF (l:List (BitVec 8)):nZ l%q≠0:=by rw[Nat.mod_eq_of_lt (O1 l)];unfold nZ;omega
theorem IP (l:List (BitVec 8))(k n:Nat)(b:BitVec 8)(h:l[k]? =some b):nY n (l.take (k+1))=(256*nY n (l.take k)+b.toNat)%(q-1):=by
  have ap:∀(l m:List (BitVec 8)) (n:Nat),nY n (l++m)=nY (nY n l) m:=by
    intro l
    induction l with
    |nil=>intro m n;rfl
    |cons c l ih=>intro m n;exact ih m _
  rw[List.take_add_one,h,ap]
  rfl
end Go.Num

namespace Go.wI
abbrev Byte:=BitVec 8
abbrev Word:=BitVec 32
def Kc (m:Nat):List Byte:=[56,48,40,32,24,16,8,0].map fun k=>BitVec.ofNat 8 (m>>>k)
def DL (m k:Nat):List Byte:=(Kc m).take k
theorem lN (m:Nat):(Kc m).length=8:=rfl
theorem zm (m k:Nat)(h:k<8):DL m (k+1)=DL m k++[BitVec.ofNat 8 (m>>>(56-8*k))]:=by
  have:k=0\/k=1\/k=2\/k=3\/k=4\/k=5\/k=6\/k=7:=by omega
  rcases this with rfl|rfl|rfl|rfl|rfl|rfl|rfl|rfl<;>rfl
def LG (x:Word)(k:Nat):Word:=x<<<(32-k)|||x>>>k
def R5 (b:List Byte):Word:=(b.getD 0 0).setWidth 32<<<24|||(b.getD 1 0).setWidth 32<<<16|||(b.getD 2 0).setWidth 32<<<8|||(b.getD 3 0).setWidth 32
def DN (w:List Word)(k:Nat):Word:=
  w.getD (k-16) 0+(LG (w.getD (k-15) 0) 7^^^LG (w.getD (k-15) 0) 18^^^(w.getD (k-15) 0)>>>3)+w.getD (k-7) 0
    +(LG (w.getD (k-2) 0) 17^^^LG (w.getD (k-2) 0) 19^^^(w.getD (k-2) 0)>>>10)
def pq (b:List Byte):Nat->List Word
  |0=>[]
  |k+1=>pq b k++[if k<16 then R5 (b.drop (4*k))else DN (pq b k) k]
theorem og (b:List Byte):∀k,(pq b k).length=k
  |0=>rfl
  |k+1=>by simp[pq,og b k]
def sched (b:List Byte):List Word:=pq b 64
def table:List Word:=[
  0x428a2f98,0x71374491,0xb5c0fbcf,0xe9b5dba5,0x3956c25b,0x59f111f1,0x923f82a4,0xab1c5ed5,
  0xd807aa98,0x12835b01,0x243185be,0x550c7dc3,0x72be5d74,0x80deb1fe,0x9bdc06a7,0xc19bf174,
  0xe49b69c1,0xefbe4786,0x0fc19dc6,0x240ca1cc,0x2de92c6f,0x4a7484aa,0x5cb0a9dc,0x76f988da,
  0x983e5152,0xa831c66d,0xb00327c8,0xbf597fc7,0xc6e00bf3,0xd5a79147,0x06ca6351,0x14292967,
  0x27b70a85,0x2e1b2138,0x4d2c6dfc,0x53380d13,0x650a7354,0x766a0abb,0x81c2c92e,0x92722c85,
  0xa2bfe8a1,0xa81a664b,0xc24b8b70,0xc76c51a3,0xd192e819,0xd6990624,0xf40e3585,0x106aa070,
  0x19a4c116,0x1e376c08,0x2748774c,0x34b0bcb5,0x391c0cb3,0x4ed8aa4a,0x5b9cca4f,0x682e6ff3,
  0x748f82ee,0x78a5636f,0x84c87814,0x8cc70208,0x90befffa,0xa4506ceb,0xbef9a3f7,0xc67178f2]
def first:List Word:=[0x6a09e667,0xbb67ae85,0x3c6ef372,0xa54ff53a,0x510e527f,0x9b05688c,0x1f83d9ab,0x5be0cd19]
def stepW (v:List Word)(k w:Word):List Word:=
  let s:=LG (v.getD 4 0) 6^^^LG (v.getD 4 0) 11^^^LG (v.getD 4 0) 25
  let t:=v.getD 7 0+s+(v.getD 6 0^^^v.getD 4 0&&&(v.getD 5 0^^^v.getD 6 0))+k+w
  let r:=LG (v.getD 0 0) 2^^^LG (v.getD 0 0) 13^^^LG (v.getD 0 0) 22
  let most:=v.getD 0 0&&&v.getD 1 0|||v.getD 2 0&&&(v.getD 0 0|||v.getD 1 0)
  [t+r+most,v.getD 0 0,v.getD 1 0,v.getD 2 0,v.getD 3 0+t,v.getD 4 0,v.getD 5 0,v.getD 6 0]
def nD (h:List Word)(ws:List Word):Nat->List Word
  |0=>h
  |i+1=>stepW (nD h ws i) (table.getD i 0) (ws.getD i 0)
theorem xk (h ws:List Word)(hh:h.length=8):∀i,(nD h ws i).length=8
  |0=>hh
  |i+1=>by simp[nD,stepW]
def uR (v h:List Word)(i:Nat):List Word:=(List.range 8).map fun j=>if j<i then v.getD j 0+h.getD j 0 else v.getD j 0
theorem qf (v h:List Word)(i:Nat):(uR v h i).length=8:=by simp[uR]
theorem DR (v h:List Word)(hv:v.length=8):uR v h 0=v:=by
  apply List.ext_getElem (by simp[uR,hv])
  intro j c b
  simp[uR,List.getD,b]
theorem vg (v h:List Word)(i j:Nat)(hj:j<8):(uR v h i)[j]? =some (if j<i then v.getD j 0+h.getD j 0 else v.getD j 0):=by simp[uR,hj]
theorem IQ (v h:List Word)(i j:Nat)(hj:j<8):(uR v h i).getD j 0=if j<i then v.getD j 0+h.getD j 0 else v.getD j 0:=by
  rw[List.getD_eq_getElem?_getD,vg v h i j hj];rfl
theorem DT (v h:List Word)(i:Nat)(hi:i<8):(uR v h i).set i (v.getD i 0+h.getD i 0)=uR v h (i+1):=by
  apply List.ext_getElem?
  intro j
  by_cases hj:j<8
  · rw[vg v h (i+1) j hj,List.getElem?_set]
    split
    · subst_vars;simp[qf,hi]
    · rename_i hne
      rw[vg v h i j hj]
      by_cases b:j<i
      · rw[if_pos b,if_pos (by omega)]
      · rw[if_neg b,if_neg (by omega)]
  · rw[List.getElem?_eq_none (by simp[qf];omega),List.getElem?_eq_none (by simp[qf];omega)]
def mix (h:List Word)(b:List Byte):List Word:=uR (nD h (sched b) 64) h 8
theorem qN (h:List Word)(b:List Byte):(mix h b).length=8:=qf _ _ _
def WV (h:List Word)(b:List Byte):Nat->List Word
  |0=>h
  |n+1=>WV (mix h (b.take 64)) (b.drop 64) n
def mD (h:List Word)(b:List Byte):List Word:=WV h b (b.length/64)
theorem sF (h:List Word)(b:List Byte)(hb:64<=b.length):mD h b=mD (mix h (b.take 64)) (b.drop 64):=by
  unfold mD
  rw[List.length_drop,show b.length/64=(b.length-64)/64+1 by omega]
  rfl
theorem um (h:List Word)(b:List Byte)(hb:b.length<64):mD h b=h:=by
  unfold mD
  rw[Nat.div_eq_of_lt hb]
  rfl
def noughts (n:Nat):Nat:=(64+55-n%64)%64
def tail (b:List Byte):List Byte:=b.drop (b.length-b.length%64)++[128]++List.replicate (noughts b.length) 0++Kc (8*b.length)
def digest (h:List Word):List Byte:=(List.range 32).map fun k=>((h.getD (k/4) 0)>>>(24-8*(k%4))).setWidth 8
def rG (h:List Word)(k:Nat):List Byte:=(digest h).take k++List.replicate (32-k) 0
theorem qF (h:List Word):(digest h).length=32:=by simp[digest]
theorem xm (h:List Word)(k:Nat)(hk:k<=32):(rG h k).length=32:=by simp[rG,qF];omega
theorem yX (h:List Word)(k:Nat)(hk:k<32):(rG h k).set k (((h.getD (k/4) 0)>>>(24-8*(k%4))).setWidth 8)=rG h (k+1):=by
  have e:(digest h)[k]? =some (((h.getD (k/4) 0)>>>(24-8*(k%4))).setWidth 8):=by simp[digest,hk]
  unfold rG
  have hl:((digest h).take k).length=k:=by simp[qF];omega
  rw[List.set_append,if_neg (by rw[hl];omega),hl,Nat.sub_self,show(32-k)=(32-(k+1))+1 by omega,List.replicate_succ,List.set_cons_zero,List.take_add_one,e]
  simp
def sum (b:List Byte):List Byte:=digest (mD (mD first b) (tail b))
theorem qO (b:List Byte):(sum b).length=32:=qF _
theorem IU (b:List Byte):(tail b).length%64=0:=by
  simp only[tail,List.length_append,List.length_drop,List.length_replicate,lN,List.length_singleton,noughts]
  omega
def nP (name:List Byte):List (List Byte)->List Byte
  |parts=>Kc name.length++name++(parts.map fun p=>Kc p.length++p).flatten
def pz (name:List Byte)(parts:List (List Byte))(k:Nat):List Byte:=Kc name.length++name++((parts.take k).map fun p=>Kc p.length++p).flatten
theorem pF (name:List Byte)(parts:List (List Byte)):pz name parts 0=Kc name.length++name:=by simp[pz]
theorem DU (name:List Byte)(parts:List (List Byte))(k:Nat)(q:List Byte)(h:parts[k]? =some q):pz name parts (k+1)=pz name parts k++Kc q.length++q:=by
  simp[pz,List.take_add_one,h]
theorem FP (name:List Byte)(parts:List (List Byte))(k:Nat)(h:parts.length<=k):pz name parts k=nP name parts:=by
  simp[pz,nP,List.take_of_length_le h]
theorem vL (name:List Byte)(parts:List (List Byte))(k:Nat):(pz name parts k).length<=(nP name parts).length:=by
  have e:nP name parts=pz name parts k++((parts.drop k).map fun p=>Kc p.length++p).flatten:=by
    unfold pz nP
    rw[List.append_assoc (Kc name.length++name),<-List.flatten_append,<-List.map_append,List.take_append_drop]
  rw[e,List.length_append]
  exact Nat.le_add_right _ _
theorem DV:∀(parts:List (List Byte)),8*parts.length<=((parts.map fun p=>Kc p.length++p).flatten).length
  |[]=>by simp
  |p::ps=>by
    have:=DV ps
    simp only[List.map_cons,List.flatten_cons,List.length_append,lN,List.length_cons]
    omega
theorem xG (name:List Byte)(parts:List (List Byte)):8*parts.length<=(nP name parts).length:=by
  have:=DV parts
  unfold nP
  rw[List.length_append]
  omega
def tag (name:List Byte)(parts:List (List Byte)):List Byte:=sum (nP name parts)
theorem nE (name:List Byte)(parts:List (List Byte)):(tag name parts).length=32:=qO _
end Go.wI

namespace Go.wI
def R6:List Byte:=[115,116,114,101,97,109]
def O3 (key:List Byte)(j:Nat):List Byte:=((List.range j).map fun i=>tag R6 [key,Kc i]).flatten
def stream (key:List Byte)(n:Nat):List Byte:=(O3 key ((n+31)/32)).take n
def ZL (a b:List Byte):List Byte:=List.zipWith (· ^^^ ·) a b
end Go.wI

namespace Go.Ac
open Go.wI Go.Num
abbrev Stop:=Nat×List Byte
def ZM:List Byte:=[114,104,111]
def rho (s:Stop)(n:Nat):List Byte:=stream (tag ZM [s.2]) n
def zeros (n:Nat):List Byte:=List.replicate n 0
def put (r f:List Byte):List Byte:=r.take (r.length-f.length)++f
def opened (s:Stop)(r:List Byte):List Byte:=ZL (r++zeros 80) (rho s 720)
theorem ZN:M<18446744073709551616:=by decide
end Go.Ac

namespace Go.Ac
open Go.wI Go.Num
theorem R7 (k:Nat):base k<18446744073709551616:=Nat.lt_trans ((tZ _).1 (DK k)).2.1 ZN
end Go.Ac
namespace Go.wI
end Go.wI

namespace Go.rZ
open Go.Ac
structure Wx where
  b:Int
  p:Int
  d:Int
  l:Int
  m:Int
deriving DecidableEq
structure Edge where
  f:Int
  t:Int
  c:Int
  r:Int
  FQ:Wx
deriving DecidableEq
def WW:Wx:=⟨0,0,0,0,0⟩
def mE:Edge:=⟨0,0,0,0,WW⟩
def l8 (n lo hi:Int):Bool:=decide (lo<=n/\n<=hi)
def IV (p:Wx):Bool:=l8 p.b 0 1125899906842624&&l8 p.l 0 p.m&&l8 p.m 0 1125899906842624&&l8 p.p 0 1000000&&l8 p.d 0 1048576
def edgeOk (e:Edge):Bool:=l8 e.f 0 11&&l8 e.t 0 11&&decide (e.f≠e.t)&&l8 e.c 0 39&&l8 e.r 1 1125899906842624&&IV e.FQ
def uS (a:Int):Bool:=l8 a 0 1125899906842624
def pG (a b:Int):Int×Bool:=if uS a&&uS b&&decide (a<=1125899906842624-b)then(a+b,true)else(0,false)
def Us (a num:Int):Int×Bool:=if uS a&&decide (0<=num)&&decide (a*num/1000000<=1125899906842624)then(a*num/1000000,true)else(0,false)
def M0 (p:Wx)(a:Int):Int×Bool:=if(Us a p.p).2&&IV p then pG p.b (Us a p.p).1 else(0,false)
def Vb (a b:Int):Int:=if a<b then-1 else if b<a then 1 else 0
def ZO (a b:Edge):Int:=if Vb a.c b.c≠0 then Vb a.c b.c else Vb a.f b.f
def GU (l:List Edge)(i:Nat):Prop:=
  edgeOk (l.getD i mE)=true/\(0<i->ZO (l.getD (i-1) mE) (l.getD i mE)<0)/\
    ((0<i/\(l.getD (i-1) mE).c=(l.getD i mE).c)->¬(1<i/\(l.getD (i-2) mE).c=(l.getD i mE).c)/\(l.getD (i-1) mE).f=(l.getD i mE).t/\(l.getD (i-1) mE).t=(l.getD i mE).f/\(l.getD (i-1) mE).r=(l.getD i mE).r)
instance (l : List Edge) (i : Nat) : Decidable (GU l i) := by unfold GU; infer_instance
def O4 (l:List Edge):Prop:=∀i,i<l.length->GU l i
instance (l : List Edge) : Decidable (O4 l) := by unfold O4; infer_instance
def LH (l:List Edge)(i:Nat):Prop:=edgeOk (l.getD i mE)=true/\(0<i->(l.getD (i-1) mE).t=(l.getD i mE).f)/\∀k,k<=i->(l.getD k mE).f≠(l.getD i mE).t
instance (l : List Edge) (i : Nat) : Decidable (LH l i) := by unfold LH; infer_instance
def R8 (l:List Edge):Prop:=(1<=l.length/\l.length<=8)/\∀i,i<l.length->LH l i
instance (l : List Edge) : Decidable (R8 l) := by unfold R8; infer_instance
def WX (l:List Edge):Bool:=decide (R8 l)
theorem r9 {n lo hi:Int}(h:l8 n lo hi=true):lo<=n/\n<=hi:=of_decide_eq_true h
theorem R9 {p:Wx}(h:IV p=true):(0<=p.b/\p.b<=1125899906842624)/\(0<=p.l/\p.l<=p.m)/\(0<=p.m/\p.m<=1125899906842624)/\(0<=p.p/\p.p<=1000000)/\0<=p.d/\p.d<=1048576:=by
  simp only[IV,Bool.and_eq_true]at h
  exact⟨r9 h.1.1.1.1,r9 h.1.1.1.2,r9 h.1.1.2,r9 h.1.2,r9 h.2⟩
theorem O5 {e:Edge}(h:edgeOk e=true):(0<=e.f/\e.f<=11)/\(0<=e.t/\e.t<=11)/\e.f≠e.t/\(0<=e.c/\e.c<=39)/\(1<=e.r/\e.r<=1125899906842624)/\IV e.FQ=true:=by
  simp only[edgeOk,Bool.and_eq_true,decide_eq_true_eq]at h
  exact⟨r9 h.1.1.1.1.1,r9 h.1.1.1.1.2,h.1.1.1.2,r9 h.1.1.2,r9 h.1.2,h.2⟩
end Go.rZ

namespace Go.rZ
open Go.Ac
variable {a x am ex er:Int}{l:List (Int×Int)}{xs:List Edge}{j:Nat}
theorem O6 {a b:Int}(h:(pG a b).2=true):(pG a b).1=a+b/\0<=a+b/\a+b<=1125899906842624:=by
  unfold pG at*
  split at h
  · rename_i hc
    simp only[uS,Bool.and_eq_true,decide_eq_true_eq]at hc
    have c:=r9 hc.1.1
    have d:=r9 hc.1.2
    exact⟨by rw[if_pos (by simp[uS,hc])],by omega,by omega⟩
  · cases h
theorem Sa {xs:List Edge}(h:WX xs=true){i:Nat}(hi:i<xs.length):LH xs i:=(of_decide_eq_true h:R8 xs).2 i hi
end Go.rZ
namespace Go.rZ
end Go.rZ
namespace Go.rZ
variable {a x:Int}
structure Ut (w:List Edge)(a x:Int)(S T:List Int):Prop where
  way:WX w=true
  Wy:1<=a/\a<=1125899906842624
  exp:1<=x/\x<=1048576
  abK:S.length=w.length
  abL:T.length=w.length
  len:1<=w.length/\w.length<=8
  room:∀i,i<w.length->((w.getD i mE).FQ.l<=S.getD i 0/\S.getD i 0<=(w.getD i mE).FQ.m/\S.getD i 0<=(w.getD i mE).r)/\T.getD i 0<=1048576
  M3:S.getD (w.length-1) 0=a
  ZP:T.getD (w.length-1) 0=x
  step:∀i,i+1<w.length->(M0 (w.getD (i+1) mE).FQ (S.getD (i+1) 0)).2=true/\(pG (S.getD (i+1) 0) (M0 (w.getD (i+1) mE).FQ (S.getD (i+1) 0)).1).2=true/\S.getD i 0=S.getD (i+1) 0+(M0 (w.getD (i+1) mE).FQ (S.getD (i+1) 0)).1/\T.getD i 0=T.getD (i+1) 0+(w.getD (i+1) mE).FQ.d
theorem Ki (p:Wx)(am:Int):0<=(M0 p am).1/\(M0 p am).1<=1125899906842624:=by
  unfold M0
  split
  · unfold pG
    split
    · rename_i hc
      simp only[uS,Bool.and_eq_true,decide_eq_true_eq]at hc
      have b:=r9 hc.1.1
      have c:=r9 hc.1.2
      show 0<=_+_/\_+_<=_
      omega
    · show(0:Int)<=0/\(0:Int)<=_
      omega
  · show(0:Int)<=0/\(0:Int)<=_
    omega
end Go.rZ
namespace Go.rZ
variable {a x:Int}
theorem Ut.ge {w:List Edge}{S T:List Int}(h:Ut w a x S T):∀d i,i+d+1=w.length->a<=S.getD i 0/\x<=T.getD i 0:=by
  intro d
  induction d with
  |zero=>intro i hi;have b:=h.M3;have c:=h.ZP;rw[show w.length-1=i by omega]at b c;omega
  |succ d ih=>
    intro i hi
    have b:=ih (i+1) (by omega)
    obtain⟨s1,e,f,j⟩:=h.step i (by omega)
    have hf:=Ki (w.getD (i+1) mE).FQ (S.getD (i+1) 0)
    have hok:=O5 (Sa h.way (i:=i+1) (by omega)).1
    have hp:=R9 hok.2.2.2.2.2
    omega
end Go.rZ
namespace Go.rZ
open Go.Ac Go.Num
structure BV where
  fr:Int
  id:Int
  am:Int
  pt:Nat
  ex:Int
deriving DecidableEq
end Go.rZ

namespace Go.Lsp
open Go.rZ Go.Num
structure Seat where
  ch:Int
  p0:Int
  p1:Int
  h0:Int
  h1:Int
deriving DecidableEq
def jM:Seat:=⟨0,0,0,0,0⟩
structure wJ where
  am:Int
  pt:Nat
deriving DecidableEq
def qP:wJ:=⟨0,0⟩
structure lX where
  ch:Int
  side:Int
  id:Int
deriving DecidableEq
def GV:lX:=⟨0,0,0⟩
structure xn where
  ch:Int
  side:Int
  am:Int
deriving DecidableEq
def jY:xn:=⟨0,0,0⟩
def Seat.p (s:Seat)(i:Nat):Int:=if i=0 then s.p0 else s.p1
def Seat.h (s:Seat)(i:Nat):Int:=if i=0 then s.h0 else s.h1
def Seat.setH (s:Seat)(i:Nat)(v:Int):Seat:=if i=0 then{s with h0:=v}else{s with h1:=v}
def nu (n:Int):Bool:=decide (0<=n/\n<=1125899906842624)
def vM (n:Nat)(s:Seat):Prop:=(0<=s.p0/\s.p0<n/\0<=s.h0/\s.h0<=1125899906842624)/\(0<=s.p1/\s.p1<n/\0<=s.h1/\s.h1<=1125899906842624)/\0<=s.ch/\s.ch<40/\s.p0≠s.p1
instance WY (n : Nat) (s : Seat) : Decidable (vM n s) := by unfold vM; infer_instance
theorem vN {n:Nat}{s:Seat}:vM n s↔(∀i,i<2->0<=s.p i/\s.p i<n/\0<=s.h i/\s.h i<=1125899906842624)/\0<=s.ch/\s.ch<40/\s.p0≠s.p1:=by
  unfold vM
  constructor
  · rintro⟨c,d,b⟩
    refine⟨fun i hi=>?_,b⟩
    have:i=0\/i=1:=by omega
    rcases this with rfl|rfl
    · exact c
    · exact d
  · rintro⟨h,b⟩
    exact⟨h 0 (by omega),h 1 (by omega),b⟩
theorem M4 {a b:List Int}(h:a.Perm b):a.sum=b.sum:=by
  induction h with
  |nil=>rfl
  |cons x _ ih=>simp[ih]
  |swap x y l=>simp;omega
  |trans _ _ h1 h2=>exact h1.trans h2
section
variable {κ β:Type}
def lJ (f:κ->β->Int)(l:List (Nat×κ×β)):Int:=(l.map fun x=>f x.2.1 x.2.2).sum
theorem IW (f:κ->β->Int):lJ f []=0:=rfl
theorem ky (f:κ->β->Int)(x:Nat×κ×β)(l:List (Nat×κ×β)):lJ f (x::l)=f x.2.1 x.2.2+lJ f l:=rfl
theorem uf {f:κ->β->Int}{a b:List (Nat×κ×β)}(h:a.Perm b):lJ f a=lJ f b:=by
  unfold lJ
  exact M4 (h.map _)
theorem mF {f:κ->β->Int}:∀{l:List (Nat×κ×β)},(∀x∈l,0<=f x.2.1 x.2.2)->0<=lJ f l
  |[],_=>by simp[lJ]
  |x::l,h=>by
    have h1:=mF (l:=l) (fun y hy=>h y (List.mem_cons_of_mem _ hy))
    have b:=h x List.mem_cons_self
    rw[ky]
    omega
end
def mR (ch side:Int)(k:lX)(h:wJ):Int:=if k.ch=ch/\k.side=side then h.am else 0
abbrev HM:=List (Nat×lX×wJ)
abbrev SM:=List (Nat×Int×Seat)
def kE (lh:HM)(ch side:Int):Int:=lJ (mR ch side) lh
def mX (lh:HM)(party:Int)(ch:Int)(s:Seat):Int:=(if s.p0=party then s.h0+kE lh ch 0 else 0)+(if s.p1=party then s.h1+kE lh ch 1 else 0)
def tJ (own:List Int)(party:Int):Int:=if 0<=party/\party<own.length then own.getD party.toNat 0 else 0
def nM (own:List Int)(ls:SM)(lh:HM)(party:Int):Int:=tJ own party+lJ (mX lh party) ls
structure qp where
  own:List Int
  ls:SM
  cs:Nat
  lh:HM
  ck:Nat
  lost:Int
deriving DecidableEq
def pI (own:List Int)(s:Seat)(j:Nat)(am fee:Int):List Int:=own.set (s.p j).toNat (own.getD (s.p j).toNat 0-(am+fee))
theorem oo (own:List Int)(s:Seat)(j:Nat)(am fee:Int):(pI own s j am fee).length=own.length:=by simp[pI]
theorem vO {own:List Int}{s:Seat}{j k:Nat}{am fee:Int}(h0:0<=s.p j)(h1:0<=s.p k)(hn:s.p j≠s.p k):(pI own s j am fee).getD (s.p k).toNat 0=own.getD (s.p k).toNat 0:=by
  unfold pI
  rw[List.getD_eq_getElem?_getD,List.getElem?_set_ne (by omega),<-List.getD_eq_getElem?_getD]
def oq {κ β:Type}[DecidableEq κ](key:κ)(u:β)(l:List (Nat×κ×β)):List (Nat×κ×β):=l.map fun y=>if y.2.1=key then(y.1,key,u)else y
def pJ {κ β:Type}[DecidableEq κ](key:κ)(l:List (Nat×κ×β)):List (Nat×κ×β):=l.filter fun y=>decide (y.2.1≠key)
theorem O7 {κ β:Type}[DecidableEq κ]{key:κ}{z u:β}{l:List (Nat×κ×β)}{b:Nat}(h:∀x∈l,x.2.1≠key):oq key u (l++[(b,key,z)])=l++[(b,key,u)]:=by
  unfold oq
  rw[List.map_append]
  have:(l.map fun y=>if y.2.1=key then(y.1,key,u)else y)=l.map id:=List.map_congr_left fun y hy=>by rw[if_neg (h y hy)];rfl
  rw[this,List.map_id]
  simp
def wK (side id am:Int)(pt:Nat):Prop:=(0<=side/\side<=1)/\1<=id/\(1<=am/\am<=1125899906842624)/\pt≠1/\right pt=true
def Am (own:List Int):Prop:=(1<=own.length/\own.length<=12)/\(∀x∈own,0<=x)/\own.sum<=1125899906842624
instance Wz (own : List Int) : Decidable (Am own) := by unfold Am; infer_instance
theorem sG:∀(l:List Int),(∀x∈l,0<=x)->∀k,0<=(l.take k).sum/\(l.take k).sum<=l.sum
  |[],_,k=>by simp
  |x::l,h,0=>by
    have h1:=sG l (fun y hy=>h y (List.mem_cons_of_mem _ hy)) l.length
    rw[List.take_length]at h1
    have b:=h x List.mem_cons_self
    simp only[List.take_zero,List.sum_nil,List.sum_cons]
    omega
  |x::l,h,k+1=>by
    have h1:=sG l (fun y hy=>h y (List.mem_cons_of_mem _ hy)) k
    have b:=h x List.mem_cons_self
    simp only[List.take_succ_cons,List.sum_cons]
    omega
theorem qG {l:List Int}{k:Nat}(h:k<l.length):(l.take (k+1)).sum=(l.take k).sum+l.getD k 0:=by
  rw[List.take_add_one,List.sum_append]
  simp[h]
theorem GX {own:List Int}{k:Nat}(hk:k<own.length)(h:(pG (own.take k).sum (own.getD k 0)).2=false):¬Am own:=by
  rintro⟨_,b,d⟩
  have e:=sG own b k
  have c:=sG own b (k+1)
  rw[qG hk]at c
  have f:0<=own.getD k 0:=b _ (by rw[List.getD_eq_getElem?_getD,List.getElem?_eq_getElem hk];exact List.getElem_mem hk)
  unfold pG at h
  rw[if_pos]at h
  · cases h
  · simp[uS,l8,-List.getD_eq_getElem?_getD]
    omega
theorem DW {own:List Int}{k:Nat}(hk:k<own.length)(hn:∀j,j<k->0<=own.getD j 0)(h:(pG (own.take k).sum (own.getD k 0)).2=true):(pG (own.take k).sum (own.getD k 0)).1=(own.take (k+1)).sum/\(own.take (k+1)).sum<=1125899906842624/\∀j,j<k+1->0<=own.getD j 0:=by
  have b:=O6 h
  rw[qG hk]
  refine⟨b.1,b.2.2,fun j hj=>?_⟩
  by_cases e:j=k
  · subst e
    unfold pG at h
    split at h
    · rename_i hc
      simp only[uS,Bool.and_eq_true]at hc
      exact(r9 hc.1.2).1
    · cases h
  · exact hn j (by omega)
def sH (g:xn):Prop:=(0<=g.side/\g.side<=1)/\1<=g.am/\g.am<=1125899906842624
instance WA (g : xn) : Decidable (sH g) := by unfold sH; infer_instance
def Ap (s:Seat)(g:xn):Seat:=(s.setH g.side.toNat (s.h g.side.toNat-g.am)).setH (1-g.side).toNat ((s.setH g.side.toNat (s.h g.side.toNat-g.am)).h (1-g.side).toNat+g.am)
structure lv where
  a:Int
  b:Int
deriving DecidableEq
def lv.ix (d:lv)(i:Nat):Int:=if i=0 then d.a else d.b
def xq (own:List Int)(s:Seat)(fee:lv):Nat->List Int
  |0=>own
  |k+1=>pI (xq own s fee k) s k (-s.h k) (fee.ix k)
def pK (lost:Int)(fee:lv):Nat->Int
  |0=>lost
  |k+1=>pK lost fee k+fee.ix k
def sQ (own:List Int)(ls:SM)(lh:HM)(k:Nat):Int:=((List.range k).map fun(i:Nat)=>nM own ls lh (i:Int)).sum
theorem CO (own:List Int)(ls:SM)(lh:HM)(k:Nat):sQ own ls lh (k+1)=sQ own ls lh k+nM own ls lh (k:Int):=by
  unfold sQ
  rw[List.range_succ,List.map_append,List.sum_append]
  simp
theorem vP (own:List Int)(s:Seat)(fee:lv):∀k,(xq own s fee k).length=own.length
  |0=>rfl
  |k+1=>by rw[xq,oo,vP own s fee k]
theorem O8 {own:List Int}{s:Seat}{fee:lv}{k:Nat}(hk:k<2)(h0:0<=s.p0)(h1:0<=s.p1)(hn:s.p0≠s.p1):(xq own s fee k).getD (s.p k).toNat 0=own.getD (s.p k).toNat 0:=by
  have:k=0\/k=1:=by omega
  rcases this with rfl|rfl
  · rfl
  · exact vO (j:=0) (k:=1) h0 h1 hn
theorem IX {lost:Int}{fee:lv}{k:Nat}(hk:k<=2)(h:0<=lost/\lost<=1125899906842624)(ha:0<=fee.a/\fee.a<=1125899906842624)(hb:0<=fee.b/\fee.b<=1125899906842624):0<=pK lost fee k/\pK lost fee k<=1125899906842624*(k+1):=by
  have:k=0\/k=1\/k=2:=by omega
  rcases this with rfl|rfl|rfl
  · simp[pK];omega
  · simp[pK,lv.ix];omega
  · simp[pK,lv.ix];omega
def nN (n:Nat)(s:Seat):Prop:=(0<=s.p0/\s.p0<n)/\(0<=s.p1/\s.p1<n)/\s.p0≠s.p1/\(0<=s.h0/\s.h0<=1125899906842624)/\(0<=s.h1/\s.h1<=1125899906842624)
theorem ku {n:Nat}{s:Seat}(h:nN n s){k:Nat}(hk:k<2):(0<=s.p k/\s.p k<n)/\0<=s.h k/\s.h k<=1125899906842624:=by
  obtain⟨a,b,c,d,e⟩:=h
  have:k=0\/k=1:=by omega
  rcases this with rfl|rfl
  · exact⟨a,d⟩
  · exact⟨b,e⟩
def o8 (s:Seat)(d:lv):Nat->Seat
  |0=>s
  |k+1=>(o8 s d k).setH k ((o8 s d k).h k+d.ix k)
theorem DX (s:Seat)(i j:Nat)(v:Int):(s.setH i v).p j=s.p j:=by
  unfold Seat.setH
  by_cases h:i=0
  · rw[if_pos h];rfl
  · rw[if_neg h];rfl
theorem vk (s:Seat)(d:lv)(j:Nat):∀k,(o8 s d k).p j=s.p j
  |0=>rfl
  |k+1=>by rw[o8,DX,vk s d j k]
theorem GY {s:Seat}{d:lv}{k:Nat}(hk:k<2):(o8 s d k).h k=s.h k:=by
  have:k=0\/k=1:=by omega
  rcases this with rfl|rfl<;>rfl
theorem GZ {s:Seat}{i:Nat}{v:Int}(hi:i<2):(s.setH i v).h i=v:=by
  have:i=0\/i=1:=by omega
  rcases this with rfl|rfl<;>rfl
def M5 (own:List Int)(s:Seat)(d fee:lv):Nat->List Int
  |0=>own
  |k+1=>pI (M5 own s d fee k) s k (d.ix k) (fee.ix k)
theorem Ar (own:List Int)(s:Seat)(d fee:lv):∀k,(M5 own s d fee k).length=own.length
  |0=>rfl
  |k+1=>by rw[M5,oo,Ar own s d fee k]
theorem Vd {own:List Int}{s:Seat}{d fee:lv}{k:Nat}(hk:k<2)(h0:0<=s.p 0)(h1:0<=s.p 1)(hn:s.p 0≠s.p 1):(M5 own s d fee k).getD (s.p k).toNat 0=own.getD (s.p k).toNat 0:=by
  have:k=0\/k=1:=by omega
  rcases this with rfl|rfl
  · rfl
  · exact vO (j:=0) (k:=1) h0 h1 hn
def IY (d fee:lv):Prop:=∀k,k<2->(-1125899906842624<=d.ix k/\d.ix k<=1125899906842624)/\0<=fee.ix k/\fee.ix k<=1125899906842624
def xH (own:List Int)(s:Seat)(d fee:lv)(k:Nat):Prop:=s.h k+d.ix k<0\/own.getD (s.p k).toNat 0<d.ix k+fee.ix k
end Go.Lsp

namespace Go.wI
theorem M6 (a b c:Word):a&&&b^^^ ~~~a&&&c=c^^^a&&&(b^^^c):=by
  apply BitVec.eq_of_getLsbD_eq
  intro i hi
  simp only[BitVec.getLsbD_xor,BitVec.getLsbD_and,BitVec.getLsbD_not,hi,decide_true,Bool.true_and]
  cases a.getLsbD i<;>cases b.getLsbD i<;>cases c.getLsbD i<;>rfl
theorem Sc (a b c:Word):a&&&b^^^a&&&c^^^b&&&c=a&&&b|||c&&&(a|||b):=by
  apply BitVec.eq_of_getLsbD_eq
  intro i hi
  simp only[BitVec.getLsbD_xor,BitVec.getLsbD_and,BitVec.getLsbD_or]
  cases a.getLsbD i<;>cases b.getLsbD i<;>cases c.getLsbD i<;>rfl
theorem O9 (x:Word)(k:Nat):x>>>k|||x<<<(32-k)=LG x k:=by rw[LG,BitVec.or_comm]
theorem M7 (b:List Byte)(k:Nat):R5 (b.drop k)=(b.getD k 0).setWidth 32<<<24|||(b.getD (k+1) 0).setWidth 32<<<16|||(b.getD (k+2) 0).setWidth 32<<<8|||(b.getD (k+3) 0).setWidth 32:=by
  simp only[R5,List.getD_eq_getElem?_getD,List.getElem?_drop,Nat.add_zero]
def Au (b:List Byte):List Byte:=b++[128]++List.replicate (noughts b.length) 0++Kc (8*b.length)
theorem IZ (b:List Byte):(Au b).length=b.length+1+noughts b.length+8:=by simp[Au,lN];omega
theorem Pb (b:List Byte):(Au b).length%64=0:=by rw[IZ,noughts];omega
theorem vo:∀(m:Nat) (h:List Word) (p t:List Byte),p.length=64*m->mD h (p++t)=mD (mD h p) t
  |0,h,p,t,hp=>by
    have:p=[]:=List.eq_nil_of_length_eq_zero (by omega)
    subst this
    rw[um h [] (by simp)];rfl
  |m+1,h,p,t,hp=>by
    rw[sF h (p++t) (by simp;omega),sF h p (by omega),List.take_append_of_le_length (by omega),List.drop_append_of_le_length (by omega)]
    exact vo m _ _ t (by simp;omega)
theorem I1 (m:Nat)(h:List Word)(p t:List Byte)(hp:p.length=64*m)(ht:t.length<64):mD h (p++t)=mD h p:=by
  rw[vo m h p t hp,um _ t ht]
theorem Sd (b:List Byte):sum b=digest (mD first (Au b)):=by
  have hb:b=b.take (b.length-b.length%64)++b.drop (b.length-b.length%64):=(List.take_append_drop _ _).symm
  have hl:(b.take (b.length-b.length%64)).length=64*(b.length/64):=by rw[List.length_take];omega
  have e1:mD first b=mD first (b.take (b.length-b.length%64)):=by
    conv=>lhs;rw[hb]
    exact I1 _ _ _ _ hl (by rw[List.length_drop];omega)
  have e2:Au b=b.take (b.length-b.length%64)++tail b:=by
    unfold Au tail
    rw[<-List.append_assoc,<-List.append_assoc,<-List.append_assoc,List.take_append_drop]
  rw[sum,e1,e2,vo _ _ _ _ hl]
end Go.wI

namespace Go.Dk
open Go.wI Go.Ac Go.Num Go.rZ
structure Uu where
  r:Nat
  s:Nat
deriving DecidableEq
def nAd:List Byte:=[97,100]
def WZ (e:Edge):Bool:=l8 e.f 0 11&&l8 e.t 0 11&&decide (e.f≠e.t)&&l8 e.c 0 39&&l8 e.r 1 1125899906842624&&l8 e.FQ.b 0 1125899906842624&&l8 e.FQ.p 0 1000000&&l8 e.FQ.d 1 4096&&l8 e.FQ.l 1 e.FQ.m&&decide (e.FQ.m<=e.r)
def ZQ (e:Edge)(no:Int):Bool:=WZ e&&l8 no 1 1048576
def mG (n:Nat):List Byte:=if h:n<128 then[BitVec.ofNat 8 n]else BitVec.ofNat 8 (n%128+128)::mG (n/128)
termination_by n
decreasing_by omega
def Ve (e:Edge)(no:Int)(gone:Bool):List Int:=[e.f,e.t,e.c,e.r,e.FQ.b,e.FQ.p,e.FQ.d,e.FQ.l,e.FQ.m,no,if gone then 1 else 0]
def Uv:List Int->List Byte
  |[]=>[]
  |n::l=>mG n.toNat++Uv l
def uM (e:Edge)(no:Int)(gone:Bool):List Byte:=if ZQ e no then tag nAd [Uv (Ve e no gone)]else List.replicate 32 0
theorem r9 {n lo hi:Int}:l8 n lo hi=true↔lo<=n/\n<=hi:=by simp[l8]
theorem lI (n:Nat)(h:n<18446744073709551616):(mG n).length<=10:=by
  have key:∀(k n:Nat),n<128^k->0<k->(mG n).length<=k:=by
    intro k
    induction k with
    |zero=>intro n h b;omega
    |succ k ih=>
      intro n h b
      rw[mG]
      split
      · simp
      · rw[List.length_cons]
        have hk:0<k:=by
          rcases Nat.eq_zero_or_pos k with e|e
          · subst e;simp at h;omega
          · exact e
        have:=ih (n/128) (by rw[Nat.pow_succ]at h;omega) hk
        omega
  exact key 10 n (by omega) (by decide)
end Go.Dk

