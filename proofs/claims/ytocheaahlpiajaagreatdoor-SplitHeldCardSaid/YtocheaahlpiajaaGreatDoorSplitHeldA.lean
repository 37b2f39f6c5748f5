/- SplitHeld: for every input the law answers true and leaves its arguments as they were. -/

set_option linter.unusedVariables false
set_option linter.unusedSimpArgs false
namespace Go.Num
def Prime (p:Nat):Prop:=2<=p/\∀d,d∣p->d=1\/d=p
theorem Prime.coprime {p x:Nat}(h:Prime p)(hx:¬p∣x):Nat.Coprime p x:=by
  rcases h.2 (Nat.gcd p x) (Nat.gcd_dvd_left p x)with b|b
  · exact b
  · exact absurd (b▸Nat.gcd_dvd_right p x) hx
def pm (m:Nat):Nat->Nat->Nat->Nat->Nat
  |0,_,_,out=>out
  |f+1,a,n,out=>pm m f (a*a%m) (n/2) (if n%2=1 then out*a%m else out)
theorem pm_eq (m:Nat):∀(f a n out:Nat),n<2^f->out<m->pm m f a n out=out*a^n%m
  |0,a,n,out,h,ho=>by
    have:n=0:=by simpa using h
    subst this
    simp[pm,Nat.mod_eq_of_lt ho]
  |f+1,a,n,out,h,ho=>by
    have hm:0<m:=by omega
    have hn:n/2<2^f:=by rw[Nat.pow_succ]at h;omega
    rw[pm]
    by_cases hp:n%2=1
    · rw[if_pos hp,pm_eq m f _ _ _ hn (Nat.mod_lt _ hm)]
      have e:a^n=a*(a*a)^(n/2):=by
        have b:n=2*(n/2)+1:=by omega
        conv=>lhs;rw[b]
        rw[Nat.pow_succ,Nat.pow_mul,Nat.pow_two,Nat.mul_comm]
      rw[e,Nat.mul_mod,Nat.mod_mod,<-Nat.pow_mod,<-Nat.mul_mod,Nat.mul_assoc]
    · rw[if_neg hp,pm_eq m f _ _ _ hn ho]
      have e:a^n=(a*a)^(n/2):=by
        have b:n=2*(n/2):=by omega
        conv=>lhs;rw[b]
        rw[Nat.pow_mul,Nat.pow_two]
      rw[e,Nat.mul_mod,<-Nat.pow_mod,<-Nat.mul_mod]
theorem pigeon:∀(n:Nat) (f:Nat->Nat),(∀i,i<n->f i<n)->(∀i j,i<n->j<n->f i=f j->i=j)->∀y,y<n->∃i,i<n/\f i=y
  |0,_,_,_,y,hy=>by omega
  |n+1,f,hf,hi,y,hy=>by
    by_cases hyn:f n=y
    · exact⟨n,by omega,hyn⟩
    · --where n is taken,put f n in its place
      have hf':∀i,i<n->(if f i=n then f n else f i)<n:=by
        intro i h
        split
        · rename_i he
          have c:=hf n (by omega)
          have b:f n≠n:=fun e=>by have:=hi i n (by omega) (by omega) (by omega);omega
          omega
        · have:=hf i (by omega);omega
      have hi':∀i j,i<n->j<n->(if f i=n then f n else f i)=(if f j=n then f n else f j)->i=j:=by
        intro i j c b he
        split at he<;>split at he
        · exact hi i j (by omega) (by omega) (by omega)
        · have:=hi n j (by omega) (by omega) he;omega
        · have:=hi i n (by omega) (by omega) he;omega
        · exact hi i j (by omega) (by omega) he
      have ih:=pigeon n (fun i=>if f i=n then f n else f i) hf' hi'
      by_cases d:y<n
      · obtain⟨i,c,b⟩:=ih y d
        by_cases hh:f i=n
        · rw[if_pos hh]at b;exact absurd b hyn
        · rw[if_neg hh]at b;exact⟨i,by omega,b⟩
      · have hyn':y=n:=by omega
        subst hyn'
        obtain⟨i,c,b⟩:=ih (f y) (by have:=hf y (by omega);omega)
        by_cases hh:f i=y
        · exact⟨i,by omega,hh⟩
        · rw[if_neg hh]at b
          have:=hi i y (by omega) (by omega) b
          omega
theorem least {p:Nat->Prop}[DecidablePred p](n:Nat)(h:p n):∃k,k<=n/\p k/\∀j,j<k->¬p j:=by
  induction n using Nat.strongRecOn with
  |ind n ih=>
    by_cases hs:∃j,j<n/\p j
    · obtain⟨j,hj,hp⟩:=hs
      obtain⟨k,d,b,c⟩:=ih j hj hp
      exact⟨k,by omega,b,c⟩
    · exact⟨n,Nat.le_refl _,h,fun j hj hp=>hs ⟨j,hj,hp⟩⟩
theorem pow_order {a m d k:Nat}(hm:1<m)(h:a^d%m=1)(hk:a^k%m=1)(hl:∀j,j<d->0<j->¬a^j%m=1)(hd:0<d):d∣k:=by
  rw[Nat.dvd_iff_mod_eq_zero]
  have e:a^k%m=a^(k%d)%m:=by
    have b:k=d*(k/d)+k%d:=(Nat.div_add_mod k d).symm
    conv=>lhs;rw[b]
    rw[Nat.pow_add,Nat.pow_mul,Nat.mul_mod,Nat.pow_mod (a^d),h,Nat.one_pow,Nat.mod_eq_of_lt hm,Nat.one_mul,Nat.mod_mod]
  by_cases hz:k%d=0
  · exact hz
  · exact absurd (e▸hk) (hl _ (Nat.mod_lt _ hd) (by omega))
theorem dvd_prod:∀(fs:List Nat) (m:Nat),(∀r∈fs,Prime r)->1<m->m∣fs.foldr (· * ·) 1->∃r∈fs,r∣m
  |[],m,_,hm,hd=>by
    have:m=1:=Nat.dvd_one.1 hd
    omega
  |r::fs,m,hp,hm,hd=>by
    by_cases hr:r∣m
    · exact⟨r,by simp,hr⟩
    · have hc:Nat.Coprime m r:=((hp r (by simp)).coprime hr).symm
      obtain⟨q,b,c⟩:=dvd_prod fs m (fun q hq=>hp q (by simp[hq])) hm (hc.dvd_of_dvd_mul_left hd)
      exact⟨q,by simp[b],c⟩
theorem lucas (n a:Nat)(fs:List Nat)(hn:2<n)(hf:fs.foldr (· * ·) 1=n-1)(hp:∀r∈fs,Prime r)(h1:a^(n-1)%n=1)(h2:∀r∈fs,¬a^((n-1)/r)%n=1):Prime n:=by
  obtain⟨d,hd,⟨f,c⟩,hl⟩:=least (p:=fun k=>0<k/\a^k%n=1) (n-1) ⟨by omega,h1⟩
  have hl':∀j,j<d->0<j->¬a^j%n=1:=fun j hj l h=>hl j hj ⟨l,h⟩
  have hdn:d∣n-1:=pow_order (by omega) c h1 hl' f
  have hde:d=n-1:=by
    obtain⟨m,hm⟩:=hdn
    by_cases o:m=1
    · rw[hm,o,Nat.mul_one]
    · have y:m≠0:=fun h=>by rw[h]at hm;simp at hm;omega
      obtain⟨r,hr,t,ht⟩:=dvd_prod fs m hp (by omega) (by rw[hf,hm];exact Nat.dvd_mul_left m d)
      have s:0<r:=by have:=(hp r hr).1;omega
      have e:(n-1)/r=d*t:=by
        rw[hm,ht,Nat.mul_left_comm,Nat.mul_comm r,Nat.mul_div_cancel _ s]
      exact absurd (by rw[e,Nat.pow_mul,Nat.pow_mod,c,Nat.one_pow,Nat.mod_eq_of_lt (by omega)]) (h2 r hr)
  subst hde
  --every number below n is a power
  have unit:∀i,i<=n-1->(a^i%n)*(a^(n-1-i))%n=1:=by
    intro i hi
    rw[Nat.mul_mod,Nat.mod_mod,<-Nat.mul_mod,<-Nat.pow_add,show i+(n-1-i)=n-1 by omega,h1]
  have pos:∀i,i<=n-1->0<a^i%n:=by
    intro i hi
    rcases Nat.eq_zero_or_pos (a^i%n)with h|h
    · have:=unit i hi;rw[h]at this;simp at this
    · exact h
  have inj:∀i j,i<n-1->j<n-1->i<=j->a^i%n=a^j%n->i=j:=by
    intro i j hi hj hij he
    have b:a^(j-i)%n=1:=by
      have hu:=unit i (by omega)
      rw[he]at hu
      rw[Nat.mul_mod,Nat.mod_mod,<-Nat.mul_mod,<-Nat.pow_add,show j+(n-1-i)=(n-1)+(j-i) by omega,Nat.pow_add,Nat.mul_mod,h1,Nat.one_mul,Nat.mod_mod]at hu
      exact hu
    by_cases hz:j-i=0
    · omega
    · exact absurd b (hl' _ (by omega) (by omega))
  have all:=pigeon (n-1) (fun i=>a^i%n-1) (fun i hi=>by have:=pos i (by omega);have:=Nat.mod_lt (a^i) (show 0<n by omega);omega)
    (fun i j hi hj he=>by
      have b:=pos i (by omega)
      have z:=pos j (by omega)
      rcases Nat.le_total i j with h|h
      · exact inj i j hi hj h (by omega)
      · exact(inj j i hj hi h (by omega)).symm)
  refine⟨by omega,fun e he=>?_⟩
  by_cases u:e=n
  · exact .inr u
  · have hele:e<=n:=Nat.le_of_dvd (by omega) he
    have A:0<e:=Nat.pos_of_dvd_of_pos he (by omega)
    obtain⟨i,hi,hie⟩:=all (e-1) (by omega)
    have b:=pos i (by omega)
    have hu:=unit i (by omega)
    rw[show a^i%n=e by omega]at hu
    left
    have v:e∣1:=by
      have x:e∣e*a^(n-1-i)%n:=(Nat.dvd_mod_iff he).2 (Nat.dvd_mul_right _ _)
      rwa [hu]at x
    exact Nat.dvd_one.1 v
theorem lucas_pm (n a f:Nat)(fs:List Nat)(hn:2<n)(hff:n<2^f)(hf:fs.foldr (· * ·) 1=n-1)(hp:∀r∈fs,Prime r)(h1:pm n f a (n-1) 1=1)(h2:∀r∈fs,¬pm n f a ((n-1)/r) 1=1):Prime n:=by
  refine lucas n a fs hn hf hp ?_ ?_
  · rw[pm_eq n f a _ 1 (by omega) (by omega),Nat.one_mul]at h1
    exact h1
  · intro r hr
    have:=h2 r hr
    rw[pm_eq n f a _ 1 (Nat.lt_of_le_of_lt (Nat.div_le_self _ _) (by omega)) (by omega),Nat.one_mul]at this
    exact this
end Go.Num

namespace Go.Num
theorem small_prime (p:Nat)(h2:2<=p)(h:(List.range p).all (fun d=>decide (d<2)||decide (p%d≠0))=true):Prime p:=by
  refine⟨h2,fun d hd=>?_⟩
  have hle:=Nat.le_of_dvd (by omega) hd
  by_cases b:d=p
  · exact .inr b
  · rw[List.all_eq_true]at h
    have:=h d (List.mem_range.2 (by omega))
    rw[Nat.dvd_iff_mod_eq_zero]at hd
    have c:d≠0:=fun h=>by subst h;simp at hd;omega
    simp[hd]at this
    left;omega
theorem prime_2:Prime 2:=small_prime 2 (by decide) (by decide+kernel)
theorem prime_3:Prime 3:=small_prime 3 (by decide) (by decide+kernel)
theorem prime_5:Prime 5:=small_prime 5 (by decide) (by decide+kernel)
theorem prime_7:Prime 7:=small_prime 7 (by decide) (by decide+kernel)
theorem prime_11:Prime 11:=small_prime 11 (by decide) (by decide+kernel)
theorem prime_17:Prime 17:=small_prime 17 (by decide) (by decide+kernel)
theorem prime_23:Prime 23:=small_prime 23 (by decide) (by decide+kernel)
theorem prime_73:Prime 73:=small_prime 73 (by decide) (by decide+kernel)
theorem prime_821:Prime 821:=small_prime 821 (by decide) (by decide+kernel)
theorem prime_2311:Prime 2311:=small_prime 2311 (by decide) (by decide+kernel)
theorem prime_172411:Prime 172411:=by
  refine lucas_pm 172411 3 18 [2,3,5,7,821] (by decide) (by decide) (by decide) ?_ (by decide+kernel) ?_
  · intro r hr
    simp at hr
    rcases hr with rfl|rfl|rfl|rfl|rfl
    · exact prime_2
    · exact prime_3
    · exact prime_5
    · exact prime_7
    · exact prime_821
  · intro r hr
    simp at hr
    rcases hr with rfl|rfl|rfl|rfl|rfl
    · decide+kernel
    · decide+kernel
    · decide+kernel
    · decide+kernel
    · decide+kernel
theorem prime_7930907:Prime 7930907:=by
  refine lucas_pm 7930907 2 23 [2,23,172411] (by decide) (by decide) (by decide) ?_ (by decide+kernel) ?_
  · intro r hr
    simp at hr
    rcases hr with rfl|rfl|rfl
    · exact prime_2
    · exact prime_23
    · exact prime_172411
  · intro r hr
    simp at hr
    rcases hr with rfl|rfl|rfl
    · decide+kernel
    · decide+kernel
    · decide+kernel
theorem prime_11864636873:Prime 11864636873:=by
  refine lucas_pm 11864636873 5 34 [2,2,2,11,17,7930907] (by decide) (by decide) (by decide) ?_ (by decide+kernel) ?_
  · intro r hr
    simp at hr
    rcases hr with rfl|rfl|rfl|rfl
    · exact prime_2
    · exact prime_11
    · exact prime_17
    · exact prime_7930907
  · intro r hr
    simp at hr
    rcases hr with rfl|rfl|rfl|rfl
    · decide+kernel
    · decide+kernel
    · decide+kernel
    · decide+kernel
theorem prime_1732236983459:Prime 1732236983459:=by
  refine lucas_pm 1732236983459 2 41 [2,73,11864636873] (by decide) (by decide) (by decide) ?_ (by decide+kernel) ?_
  · intro r hr
    simp at hr
    rcases hr with rfl|rfl|rfl
    · exact prime_2
    · exact prime_73
    · exact prime_11864636873
  · intro r hr
    simp at hr
    rcases hr with rfl|rfl|rfl
    · decide+kernel
    · decide+kernel
    · decide+kernel
theorem prime_249442125618097:Prime 249442125618097:=by
  refine lucas_pm 249442125618097 5 48 [2,2,2,2,3,3,1732236983459] (by decide) (by decide) (by decide) ?_ (by decide+kernel) ?_
  · intro r hr
    simp at hr
    rcases hr with rfl|rfl|rfl
    · exact prime_2
    · exact prime_3
    · exact prime_1732236983459
  · intro r hr
    simp at hr
    rcases hr with rfl|rfl|rfl
    · decide+kernel
    · decide+kernel
    · decide+kernel
theorem prime_2305843009213688669:Prime 2305843009213688669:=by
  refine lucas_pm 2305843009213688669 2 61 [2,2,2311,249442125618097] (by decide) (by decide) (by decide) ?_ (by decide+kernel) ?_
  · intro r hr
    simp at hr
    rcases hr with rfl|rfl|rfl
    · exact prime_2
    · exact prime_2311
    · exact prime_249442125618097
  · intro r hr
    simp at hr
    rcases hr with rfl|rfl|rfl
    · decide+kernel
    · decide+kernel
    · decide+kernel
end Go.Num

namespace Go.Num
def q:Nat:=2305843009213688669
def M:Nat:=4611686018427377339
theorem q_def:q=2305843009213688669:=rfl
theorem q_prime:Prime q:=prime_2305843009213688669
theorem q_pos:0<q:=by decide
theorem M_one:1<M:=by decide
def pw (a n:Nat):Nat:=pm M 64 a n 1
theorem pw_eq (a n:Nat)(h:n<18446744073709551616):pw a n=a^n%M:=by
  have b:n<2^64:=by rw[show(2:Nat)^64=18446744073709551616 by decide];exact h
  rw[pw,pm_eq M 64 a n 1 b M_one,Nat.one_mul]
theorem step1 (a n out:Nat)(h:n%2=1):(out*a%M)*(a*a%M)^(n/2)%M=out*a^n%M:=by
  have e:a^n=a*(a*a)^(n/2):=by
    have b:n=2*(n/2)+1:=by omega
    conv=>lhs;rw[b]
    rw[Nat.pow_succ,Nat.pow_mul,Nat.pow_two,Nat.mul_comm]
  rw[e,Nat.mul_mod,Nat.mod_mod,<-Nat.pow_mod,<-Nat.mul_mod,Nat.mul_assoc]
theorem step0 (a n out:Nat)(h:¬n%2=1):out*(a*a%M)^(n/2)%M=out*a^n%M:=by
  have e:a^n=(a*a)^(n/2):=by
    have b:n=2*(n/2):=by omega
    conv=>lhs;rw[b]
    rw[Nat.pow_mul,Nat.pow_two]
  rw[e,Nat.mul_mod,<-Nat.pow_mod,<-Nat.mul_mod]
theorem pw_start (a n:Nat)(h:n<18446744073709551616):1*a^n%M=pw a n:=by rw[pw_eq a n h,Nat.one_mul]
theorem pw_end (a out:Nat)(h:out<M):out*a^0%M=out:=by rw[Nat.pow_zero,Nat.mul_one,Nat.mod_eq_of_lt h]
theorem q_lt:q<18446744073709551616:=by decide
def right (p:Nat):Bool:=decide (0<p)&&decide (p<M)&&decide (pw p q=1)
theorem right_iff (p:Nat):right p=true↔0<p/\p<M/\p^q%M=1:=by
  unfold right
  rw[pw_eq p q q_lt]
  simp[and_assoc]
def taken (p:Nat):Nat:=if right p then p else 1
def scale (p k:Nat):Nat:=pw (taken p) (k%q)
def base (k:Nat):Nat:=scale 4 k
def mulS (a b:Nat):Nat:=(a%q)*(b%q)%q
def addS (a b:Nat):Nat:=(a%q+b%q)%q
def negS (a:Nat):Nat:=(q-a%q)%q
def addP (a b:Nat):Nat:=taken a*taken b%M
theorem right_one:right 1=true:=by decide+kernel
theorem right_four:right 4=true:=by decide+kernel
theorem right_taken (p:Nat):right (taken p)=true:=by
  unfold taken
  split
  · assumption
  · exact right_one
theorem taken_right {p:Nat}(h:right p=true):taken p=p:=by rw[taken,if_pos h]
theorem pow_q {p:Nat}(h:right p=true):p^q%M=1:=((right_iff p).1 h).2.2
theorem pow_mod_q {p:Nat}(h:right p=true)(k:Nat):p^(k%q)%M=p^k%M:=by
  have e:k=q*(k/q)+k%q:=(Nat.div_add_mod k q).symm
  conv=>rhs;rw[e]
  rw[Nat.pow_add,Nat.pow_mul,Nat.mul_mod,Nat.pow_mod (p^q),pow_q h,Nat.one_pow,Nat.mod_eq_of_lt M_one,Nat.one_mul,Nat.mod_mod]
theorem right_pow {p:Nat}(h:right p=true)(k:Nat):right (p^k%M)=true:=by
  rw[right_iff]
  have b:(p^k%M)^q%M=1:=by
    rw[<-Nat.pow_mod,<-Nat.pow_mul,Nat.mul_comm,Nat.pow_mul,Nat.pow_mod,pow_q h,Nat.one_pow,Nat.mod_eq_of_lt M_one]
  refine⟨?_,Nat.mod_lt _ (by decide),b⟩
  rcases Nat.eq_zero_or_pos (p^k%M)with c|c
  · rw[c,Nat.zero_pow q_pos]at b
    simp at b
  · exact c
theorem mod_q_lt (k:Nat):k%q<18446744073709551616:=Nat.lt_trans (Nat.mod_lt _ q_pos) q_lt
theorem scale_eq (p k:Nat):scale p k=taken p^k%M:=by
  rw[scale,pw_eq _ _ (mod_q_lt k),pow_mod_q (right_taken p)]
theorem right_scale (p k:Nat):right (scale p k)=true:=by rw[scale_eq];exact right_pow (right_taken p) k
theorem scale_mod (p k:Nat):scale p (k%q)=scale p k:=by rw[scale,scale,Nat.mod_mod]
theorem addS_eq (a b:Nat):addS a b=(a+b)%q:=by rw[addS,<-Nat.add_mod]
theorem right_base (k:Nat):right (base k)=true:=right_scale 4 k
theorem one_scale {p k:Nat}(h:right p=true)(h1:p≠1)(hk:k%q≠0):scale p k≠1:=by
  rw[scale_eq,taken_right h]
  intro he
  obtain⟨d,_,⟨e,b⟩,hl⟩:=least (p:=fun k=>0<k/\p^k%M=1) q ⟨q_pos,pow_q h⟩
  have hl':∀j,j<d->0<j->¬p^j%M=1:=fun j hj f h=>hl j hj ⟨f,h⟩
  have hdq:d∣q:=pow_order M_one b (pow_q h) hl' e
  have hdk:d∣k:=pow_order M_one b he hl' e
  rcases q_prime.2 d hdq with c|c
  · subst c
    rw[Nat.pow_one,Nat.mod_eq_of_lt ((right_iff p).1 h).2.1]at b
    exact h1 b
  · subst c
    exact hk (Nat.dvd_iff_mod_eq_zero.1 hdk)
theorem base_ne_one {k:Nat}(hk:k%q≠0):base k≠1:=one_scale right_four (by decide) hk
theorem addP_base (a b:Nat):addP (base a) (base b)=base (addS a b):=by
  rw[addP,taken_right (right_base a),taken_right (right_base b),base,base,base,addS_eq,scale_mod,scale_eq,scale_eq,scale_eq,<-Nat.mul_mod,Nat.pow_add]
def fromTo (n:Nat):List (BitVec 8)->Nat
  |[]=>n
  |b::l=>fromTo ((256*n+b.toNat)%(q-1)) l
def fromB (l:List (BitVec 8)):Nat:=fromTo 0 l+1
theorem fromTo_lt:∀(l:List (BitVec 8)) (n:Nat),n<q-1->fromTo n l<q-1
  |[],_,h=>h
  |_::l,_,_=>fromTo_lt l _ (Nat.mod_lt _ (by decide))
theorem fromB_lt (l:List (BitVec 8)):fromB l<q:=by
  have:=fromTo_lt l 0 (by decide)
  have:=q_pos
  unfold fromB;omega
theorem fromTo_snoc (l:List (BitVec 8))(k n:Nat)(b:BitVec 8)(h:l[k]? =some b):fromTo n (l.take (k+1))=(256*fromTo n (l.take k)+b.toNat)%(q-1):=by
  have ap:∀(l m:List (BitVec 8)) (n:Nat),fromTo n (l++m)=fromTo (fromTo n l) m:=by
    intro l
    induction l with
    |nil=>intro m n;rfl
    |cons c l ih=>intro m n;exact ih m _
  rw[List.take_add_one,h,ap]
  rfl
end Go.Num

namespace Go.Hsp
abbrev Byte:=BitVec 8
abbrev Word:=BitVec 32
def be8 (m:Nat):List Byte:=[56,48,40,32,24,16,8,0].map fun k=>BitVec.ofNat 8 (m>>>k)
def be8To (m k:Nat):List Byte:=(be8 m).take k
theorem be8_length (m:Nat):(be8 m).length=8:=rfl
theorem be8To_succ (m k:Nat)(h:k<8):be8To m (k+1)=be8To m k++[BitVec.ofNat 8 (m>>>(56-8*k))]:=by
  have:k=0\/k=1\/k=2\/k=3\/k=4\/k=5\/k=6\/k=7:=by omega
  rcases this with rfl|rfl|rfl|rfl|rfl|rfl|rfl|rfl<;>rfl
def rot (x:Word)(k:Nat):Word:=x<<<(32-k)|||x>>>k
def be32 (b:List Byte):Word:=(b.getD 0 0).setWidth 32<<<24|||(b.getD 1 0).setWidth 32<<<16|||(b.getD 2 0).setWidth 32<<<8|||(b.getD 3 0).setWidth 32
def nextWord (w:List Word)(k:Nat):Word:=
  w.getD (k-16) 0+(rot (w.getD (k-15) 0) 7^^^rot (w.getD (k-15) 0) 18^^^(w.getD (k-15) 0)>>>3)+w.getD (k-7) 0
    +(rot (w.getD (k-2) 0) 17^^^rot (w.getD (k-2) 0) 19^^^(w.getD (k-2) 0)>>>10)
def schedTo (b:List Byte):Nat->List Word
  |0=>[]
  |k+1=>schedTo b k++[if k<16 then be32 (b.drop (4*k))else nextWord (schedTo b k) k]
theorem schedTo_length (b:List Byte):∀k,(schedTo b k).length=k
  |0=>rfl
  |k+1=>by simp[schedTo,schedTo_length b k]
def sched (b:List Byte):List Word:=schedTo b 64
def table:List Word:=[
  0x428a2f98,0x71374491,0xb5c0fbcf,0xe9b5dba5,0x3956c25b,0x59f111f1,0x923f82a4,0xab1c5ed5,
  0xd807aa98,0x12835b01,0x243185be,0x550c7dc3,0x72be5d74,0x80deb1fe,0x9bdc06a7,0xc19bf174,
  0xe49b69c1,0xefbe4786,0x0fc19dc6,0x240ca1cc,0x2de92c6f,0x4a7484aa,0x5cb0a9dc,0x76f988da,
  0x983e5152,0xa831c66d,0xb00327c8,0xbf597fc7,0xc6e00bf3,0xd5a79147,0x06ca6351,0x14292967,
  0x27b70a85,0x2e1b2138,0x4d2c6dfc,0x53380d13,0x650a7354,0x766a0abb,0x81c2c92e,0x92722c85,
  0xa2bfe8a1,0xa81a664b,0xc24b8b70,0xc76c51a3,0xd192e819,0xd6990624,0xf40e3585,0x106aa070,
  0x19a4c116,0x1e376c08,0x2748774c,0x34b0bcb5,0x391c0cb3,0x4ed8aa4a,0x5b9cca4f,0x682e6ff3,
  0x748f82ee,0x78a5636f,0x84c87814,0x8cc70208,0x90befffa,0xa4506ceb,0xbef9a3f7,0xc67178f2]
def first:List Word:=[0x6a09e667,0xbb67ae85,0x3c6ef372,0xa54ff53a,0x510e527f,0x9b05688c,0x1f83d9ab,0x5be0cd19]
def stepW (v:List Word)(k w:Word):List Word:=
  let s:=rot (v.getD 4 0) 6^^^rot (v.getD 4 0) 11^^^rot (v.getD 4 0) 25
  let t:=v.getD 7 0+s+(v.getD 6 0^^^v.getD 4 0&&&(v.getD 5 0^^^v.getD 6 0))+k+w
  let r:=rot (v.getD 0 0) 2^^^rot (v.getD 0 0) 13^^^rot (v.getD 0 0) 22
  let most:=v.getD 0 0&&&v.getD 1 0|||v.getD 2 0&&&(v.getD 0 0|||v.getD 1 0)
  [t+r+most,v.getD 0 0,v.getD 1 0,v.getD 2 0,v.getD 3 0+t,v.getD 4 0,v.getD 5 0,v.getD 6 0]
def roundsTo (h:List Word)(ws:List Word):Nat->List Word
  |0=>h
  |i+1=>stepW (roundsTo h ws i) (table.getD i 0) (ws.getD i 0)
theorem roundsTo_length (h ws:List Word)(hh:h.length=8):∀i,(roundsTo h ws i).length=8
  |0=>hh
  |i+1=>by simp[roundsTo,stepW]
def addTo (v h:List Word)(i:Nat):List Word:=(List.range 8).map fun j=>if j<i then v.getD j 0+h.getD j 0 else v.getD j 0
theorem addTo_length (v h:List Word)(i:Nat):(addTo v h i).length=8:=by simp[addTo]
theorem addTo_zero (v h:List Word)(hv:v.length=8):addTo v h 0=v:=by
  apply List.ext_getElem (by simp[addTo,hv])
  intro j c b
  simp[addTo,List.getD,b]
theorem addTo_getElem (v h:List Word)(i j:Nat)(hj:j<8):(addTo v h i)[j]? =some (if j<i then v.getD j 0+h.getD j 0 else v.getD j 0):=by simp[addTo,hj]
theorem addTo_at (v h:List Word)(i j:Nat)(hj:j<8):(addTo v h i).getD j 0=if j<i then v.getD j 0+h.getD j 0 else v.getD j 0:=by
  rw[List.getD_eq_getElem?_getD,addTo_getElem v h i j hj];rfl
theorem addTo_succ (v h:List Word)(i:Nat)(hi:i<8):(addTo v h i).set i (v.getD i 0+h.getD i 0)=addTo v h (i+1):=by
  apply List.ext_getElem?
  intro j
  by_cases hj:j<8
  · rw[addTo_getElem v h (i+1) j hj,List.getElem?_set]
    split
    · subst_vars;simp[addTo_length,hi]
    · rename_i hne
      rw[addTo_getElem v h i j hj]
      by_cases b:j<i
      · rw[if_pos b,if_pos (by omega)]
      · rw[if_neg b,if_neg (by omega)]
  · rw[List.getElem?_eq_none (by simp[addTo_length];omega),List.getElem?_eq_none (by simp[addTo_length];omega)]
def mix (h:List Word)(b:List Byte):List Word:=addTo (roundsTo h (sched b) 64) h 8
theorem mix_length (h:List Word)(b:List Byte):(mix h b).length=8:=addTo_length _ _ _
def mixN (h:List Word)(b:List Byte):Nat->List Word
  |0=>h
  |n+1=>mixN (mix h (b.take 64)) (b.drop 64) n
def mixAll (h:List Word)(b:List Byte):List Word:=mixN h b (b.length/64)
theorem mixAll_step (h:List Word)(b:List Byte)(hb:64<=b.length):mixAll h b=mixAll (mix h (b.take 64)) (b.drop 64):=by
  unfold mixAll
  rw[List.length_drop,show b.length/64=(b.length-64)/64+1 by omega]
  rfl
theorem mixAll_end (h:List Word)(b:List Byte)(hb:b.length<64):mixAll h b=h:=by
  unfold mixAll
  rw[Nat.div_eq_of_lt hb]
  rfl
def noughts (n:Nat):Nat:=(64+55-n%64)%64
def tail (b:List Byte):List Byte:=b.drop (b.length-b.length%64)++[128]++List.replicate (noughts b.length) 0++be8 (8*b.length)
def digest (h:List Word):List Byte:=(List.range 32).map fun k=>((h.getD (k/4) 0)>>>(24-8*(k%4))).setWidth 8
def digestTo (h:List Word)(k:Nat):List Byte:=(digest h).take k++List.replicate (32-k) 0
theorem digest_length (h:List Word):(digest h).length=32:=by simp[digest]
theorem digestTo_length (h:List Word)(k:Nat)(hk:k<=32):(digestTo h k).length=32:=by simp[digestTo,digest_length];omega
theorem digestTo_succ (h:List Word)(k:Nat)(hk:k<32):(digestTo h k).set k (((h.getD (k/4) 0)>>>(24-8*(k%4))).setWidth 8)=digestTo h (k+1):=by
  have e:(digest h)[k]? =some (((h.getD (k/4) 0)>>>(24-8*(k%4))).setWidth 8):=by simp[digest,hk]
  unfold digestTo
  have hl:((digest h).take k).length=k:=by simp[digest_length];omega
  rw[List.set_append,if_neg (by rw[hl];omega),hl,Nat.sub_self,show(32-k)=(32-(k+1))+1 by omega,List.replicate_succ,List.set_cons_zero,List.take_add_one,e]
  simp
def sum (b:List Byte):List Byte:=digest (mixAll (mixAll first b) (tail b))
theorem sum_length (b:List Byte):(sum b).length=32:=digest_length _
theorem tail_length (b:List Byte):(tail b).length%64=0:=by
  simp only[tail,List.length_append,List.length_drop,List.length_replicate,be8_length,List.length_singleton,noughts]
  omega
def tagBytes (name:List Byte):List (List Byte)->List Byte
  |parts=>be8 name.length++name++(parts.map fun p=>be8 p.length++p).flatten
def tagTo (name:List Byte)(parts:List (List Byte))(k:Nat):List Byte:=be8 name.length++name++((parts.take k).map fun p=>be8 p.length++p).flatten
theorem tagTo_zero (name:List Byte)(parts:List (List Byte)):tagTo name parts 0=be8 name.length++name:=by simp[tagTo]
theorem tagTo_succ (name:List Byte)(parts:List (List Byte))(k:Nat)(q:List Byte)(h:parts[k]? =some q):tagTo name parts (k+1)=tagTo name parts k++be8 q.length++q:=by
  simp[tagTo,List.take_add_one,h]
theorem tagTo_all (name:List Byte)(parts:List (List Byte))(k:Nat)(h:parts.length<=k):tagTo name parts k=tagBytes name parts:=by
  simp[tagTo,tagBytes,List.take_of_length_le h]
theorem tagTo_le (name:List Byte)(parts:List (List Byte))(k:Nat):(tagTo name parts k).length<=(tagBytes name parts).length:=by
  have e:tagBytes name parts=tagTo name parts k++((parts.drop k).map fun p=>be8 p.length++p).flatten:=by
    unfold tagTo tagBytes
    rw[List.append_assoc (be8 name.length++name),<-List.flatten_append,<-List.map_append,List.take_append_drop]
  rw[e,List.length_append]
  exact Nat.le_add_right _ _
theorem flat_parts:∀(parts:List (List Byte)),8*parts.length<=((parts.map fun p=>be8 p.length++p).flatten).length
  |[]=>by simp
  |p::ps=>by
    have:=flat_parts ps
    simp only[List.map_cons,List.flatten_cons,List.length_append,be8_length,List.length_cons]
    omega
theorem tagBytes_parts (name:List Byte)(parts:List (List Byte)):8*parts.length<=(tagBytes name parts).length:=by
  have:=flat_parts parts
  unfold tagBytes
  rw[List.length_append]
  omega
def tag (name:List Byte)(parts:List (List Byte)):List Byte:=sum (tagBytes name parts)
theorem tag_length (name:List Byte)(parts:List (List Byte)):(tag name parts).length=32:=sum_length _
end Go.Hsp

namespace Go.Hsp
def nStream:List Byte:=[115,116,114,101,97,109]
def streamTo (key:List Byte)(j:Nat):List Byte:=((List.range j).map fun i=>tag nStream [key,be8 i]).flatten
def stream (key:List Byte)(n:Nat):List Byte:=(streamTo key ((n+31)/32)).take n
def xorB (a b:List Byte):List Byte:=List.zipWith (· ^^^ ·) a b
def overB (key b:List Byte):List Byte:=xorB (stream key b.length) b
def inner (key s:List Byte):List Byte:=overB key (s.take (s.length-8))
end Go.Hsp

namespace Go.Osp
open Go.Hsp Go.Num
abbrev Hop:=Int×Int×Int×Int×Nat×Nat
abbrev Stop:=Nat×List Byte
def nShared:List Byte:=[115,104,97,114,101,100]
def nBlind:List Byte:=[98,108,105,110,100]
def nRho:List Byte:=[114,104,111]
def nMac:List Byte:=[109,97,99]
def nOnion:List Byte:=[111,110,105,111,110]
def nPad:List Byte:=[112,97,100]
def usg (i:Int):Nat:=(i%18446744073709551616).toNat
def layB (h:Hop):List Byte:=be8 (usg h.1)++be8 (usg h.2.1)++be8 (usg h.2.2.1)++be8 (usg h.2.2.2.1)++be8 h.2.2.2.2.1++be8 h.2.2.2.2.2
def mayB (h:Hop):Bool:=(decide (-1<=h.1/\h.1<=11)&&decide (0<=h.2.1/\h.2.1<=1048575)&&decide (0<=h.2.2.1/\h.2.2.1<=1125899906842624)&&decide (0<=h.2.2.2.1/\h.2.2.2.1<=1048576))&&(decide (h.2.2.2.2.2<q)&&(decide (h.2.2.2.2.1=0)||right h.2.2.2.2.1))
def I64 (i:Int):Prop:= -9223372036854775808<=i/\i<=9223372036854775807
def HopOk (h:Hop):Prop:=I64 h.1/\I64 h.2.1/\I64 h.2.2.1/\I64 h.2.2.2.1/\h.2.2.2.2.1<18446744073709551616/\h.2.2.2.2.2<18446744073709551616
def sharedB (p:Nat):List Byte:=tag nShared [be8 p]
def blindB (s:Stop):Nat:=fromB (tag nBlind [be8 s.1,s.2])
def rho (s:Stop)(n:Nat):List Byte:=stream (tag nRho [s.2]) n
def macB (s:Stop)(b:List Byte):List Byte:=tag nMac [s.2,b]
def startX (seed:List Byte):Nat:=fromB (tag nOnion [seed])
def padO (seed:List Byte):List Byte:=stream (tag nPad [seed]) 640
def stopB (x k:Nat):Stop:=(base x,sharedB (scale k x))
def nextX (x k:Nat):Nat:=mulS x (blindB (stopB x k))
def wayB:Nat->List Nat->List Stop
  |_,[]=>[]
  |x,k::ks=>stopB x k::wayB (nextX x k) ks
def keyOk (k:Nat):Bool:=decide (k≠1)&&right k
def keysOk (ks:List Nat):Bool:=decide (1<=ks.length)&&decide (ks.length<=8)&&ks.all keyOk
def zeros (n:Nat):List Byte:=List.replicate n 0
def fillS (f:List Byte)(s:Stop):List Byte:=xorB (f++zeros 80) ((rho s 720).drop (720-(f.length+80)))
def fillTo:List Byte->List Stop->List Byte
  |f,[]=>f
  |f,s::l=>fillTo (fillS f s) l
def filler (l:List Stop):List Byte:=fillTo [] (l.take (l.length-1))
def put (r f:List Byte):List Byte:=r.take (r.length-f.length)++f
def layer (s:Stop)(h:Hop)(m r:List Byte):List Byte:=xorB (layB h++m++r.take 560) (rho s 640)
def wrapR (pad:List Byte):List Byte->List Stop->List Hop->List Byte×List Byte
  |f,[s],h::_=>(put (layer s h (zeros 32) pad) f,macB s (put (layer s h (zeros 32) pad) f))
  |f,s::l,h::hs=>(layer s h (wrapR pad (fillS f s) l hs).2 (wrapR pad (fillS f s) l hs).1,macB s (layer s h (wrapR pad (fillS f s) l hs).2 (wrapR pad (fillS f s) l hs).1))
  |_,_,_=>(pad,zeros 32)
def opened (s:Stop)(r:List Byte):List Byte:=xorB (r++zeros 80) (rho s 720)
def packetB (e:Nat)(rm:List Byte×List Byte):List Byte:=be8 e++rm.1++rm.2
def hopsOk (ks:List Nat)(hs:List Hop):Bool:=decide (hs.length=ks.length)&&(List.range hs.length).all fun i=>mayB (hs.getD i (0,0,0,0,0,0))&&decide (decide ((hs.getD i (0,0,0,0,0,0)).1<0)=decide (i+1=hs.length))
def noHop:Hop:=(0,0,0,0,0,0)
theorem M_lt:M<18446744073709551616:=by decide
end Go.Osp

namespace Go.Osp
open Go.Hsp Go.Num
def stepR (l:List Stop)(hs:List Hop)(st:List Byte×List Byte)(k:Nat):List Byte×List Byte:=
  ((if k+1=l.length then put (layer (l.getD k (0,[])) (hs.getD k noHop) st.2 st.1) (filler l)else layer (l.getD k (0,[])) (hs.getD k noHop) st.2 st.1),
   macB (l.getD k (0,[])) (if k+1=l.length then put (layer (l.getD k (0,[])) (hs.getD k noHop) st.2 st.1) (filler l)else layer (l.getD k (0,[])) (hs.getD k noHop) st.2 st.1))
end Go.Osp

namespace Go.Osp
open Go.Hsp Go.Num
def xAt':Nat->List Nat->Nat
  |x,[]=>x
  |x,k::ks=>xAt' (nextX x k) ks
def pkt (pts:List Nat)(hs:List Hop)(seed:List Byte)(i:Nat):List Byte:=
  if i<pts.length then packetB (base (xAt' (startX seed) (pts.take i))) (wrapR (padO seed) (fillTo [] ((wayB (startX seed) pts).take i)) (wayB (xAt' (startX seed) (pts.take i)) (pts.drop i)) (hs.drop i))else[]
theorem base_keyOk {k:Nat}(h:k%q≠0):keyOk (base k)=true:=by
  rw[keyOk,right_base k,decide_eq_true (base_ne_one h)];rfl
theorem keysOk_base (own:List Nat)(hown:∀k∈own,k≠0/\k<q)(h1:1<=own.length)(h8:own.length<=8):keysOk (own.map base)=true:=by
  rw[keysOk,decide_eq_true (by simpa using h1),decide_eq_true (by simpa using h8),Bool.true_and,Bool.true_and,List.all_eq_true]
  intro p hp
  obtain⟨k,hk,rfl⟩:=List.mem_map.1 hp
  have:=hown k hk
  exact base_keyOk (by rw[Nat.mod_eq_of_lt this.2];exact this.1)
theorem base_lt (k:Nat):base k<18446744073709551616:=Nat.lt_trans ((right_iff _).1 (right_base k)).2.1 M_lt
end Go.Osp
namespace Go.Hsp
end Go.Hsp

namespace Go.Osp
open Go.Hsp Go.Num
def sumS (l:List Nat):Nat:=l.foldl addS 0
theorem addS_lt (a b:Nat):addS a b<q:=Nat.mod_lt _ q_pos
theorem sumS_snoc (l:List Nat)(k x:Nat)(h:l[k]? =some x):sumS (l.take (k+1))=addS (sumS (l.take k)) x:=by
  rw[List.take_add_one,h];simp[sumS]
def fromP (p:Nat):List Nat->List Nat
  |[]=>[p]
  |b::l=>addP ((fromP p l).headD 0) (base b)::fromP p l
def tP (s:Nat):List Nat->List Nat
  |[]=>[s]
  |b::l=>addS ((tP s l).headD 0) b::tP s l
theorem fromP_length (p:Nat):∀l,(fromP p l).length=l.length+1
  |[]=>rfl
  |b::l=>by rw[fromP,List.length_cons,fromP_length p l,List.length_cons]
theorem tP_length (s:Nat):∀l,(tP s l).length=l.length+1
  |[]=>rfl
  |b::l=>by rw[tP,List.length_cons,tP_length s l,List.length_cons]
theorem fromP_base (s:Nat):∀l,fromP (base s) l=(tP s l).map base
  |[]=>rfl
  |b::l=>by
    rw[fromP,tP,List.map_cons,fromP_base s l]
    congr 1
    have:=tP_length s l
    cases h:tP s l with
    |nil=>rw[h]at this;simp at this
    |cons t r=>exact addP_base t b
theorem headD_getD {l:List Nat}:l.headD 0=l.getD 0 0:=by cases l<;>rfl
theorem tP_last (s:Nat):∀l:List Nat,(tP s l).getD l.length 0=s
  |[]=>rfl
  |b::l=>by rw[tP,List.length_cons];simpa using tP_last s l
def blindsP (seed:List Byte)(n:Nat):List Nat:=(List.range n).map fun i=>fromB (tag nBlind [seed,[BitVec.ofNat 8 i]])
theorem blindsP_length (seed:List Byte)(n:Nat):(blindsP seed n).length=n:=by simp[blindsP]
theorem blindsP_succ (seed:List Byte)(n:Nat):blindsP seed (n+1)=blindsP seed n++[fromB (tag nBlind [seed,[BitVec.ofNat 8 n]])]:=by simp[blindsP,List.range_succ]
theorem fill_back (p:Nat)(l:List Nat)(k:Nat)(hk:k<l.length):
    (List.replicate (l.length-k) 0++fromP p (l.drop (l.length-k))).set (l.length-1-k) (addP ((List.replicate (l.length-k) 0++fromP p (l.drop (l.length-k))).getD (l.length-1-k+1) 0) (base (l.getD (l.length-1-k) 0)))=
      List.replicate (l.length-(k+1)) 0++fromP p (l.drop (l.length-(k+1))):=by
  have b:l.length-k=(l.length-(k+1))+1:=by omega
  have c:l.length-1-k=l.length-(k+1):=by omega
  have d:l.drop (l.length-(k+1))=l.getD (l.length-(k+1)) 0::l.drop (l.length-k):=by
    rw[List.drop_eq_getElem_cons (by omega),b]
    congr 1
    simp[List.getD,show l.length-(k+1)<l.length by omega]
  rw[d,fromP,headD_getD,c]
  generalize fromP p (l.drop (l.length-k))=r
  rw[b,List.replicate_succ',List.append_assoc]
  have hr:(List.replicate (l.length-(k+1)) 0++([0]++r)).getD (l.length-(k+1)+1) 0=r.getD 0 0:=by
    rw[List.getD_eq_getElem?_getD,List.getElem?_append_right (by simp)]
    simp[List.getD]
  rw[hr,List.set_append_right _ _ (by simp)]
  simp
theorem getD_lt {l:List Nat}{b:Nat}(h:∀x∈l,x<b)(hb:0<b)(i:Nat):l.getD i 0<b:=by
  rw[List.getD_eq_getElem?_getD]
  cases e:l[i]? with
  |none=>exact hb
  |some x=>exact h x (List.mem_of_getElem? e)
end Go.Osp

namespace Go.Gsp
open Go.Osp
structure Pol where
  b:Int
  p:Int
  d:Int
  l:Int
  m:Int
deriving DecidableEq
structure Edge where
  f:Int
  t:Int
  c:Int
  r:Int
  pol:Pol
deriving DecidableEq
def noPol:Pol:=⟨0,0,0,0,0⟩
def noEdge:Edge:=⟨0,0,0,0,noPol⟩
def inB (n lo hi:Int):Bool:=decide (lo<=n/\n<=hi)
def polOk (p:Pol):Bool:=inB p.b 0 1125899906842624&&inB p.l 0 p.m&&inB p.m 0 1125899906842624&&inB p.p 0 1000000&&inB p.d 0 1048576
def edgeOk (e:Edge):Bool:=inB e.f 0 11&&inB e.t 0 11&&decide (e.f≠e.t)&&inB e.c 0 39&&inB e.r 1 1125899906842624&&polOk e.pol
def coinB (a:Int):Bool:=inB a 0 1125899906842624
def addC (a b:Int):Int×Bool:=if coinB a&&coinB b&&decide (a<=1125899906842624-b)then(a+b,true)else(0,false)
def partC (a num:Int):Int×Bool:=if coinB a&&decide (0<=num)&&decide (a*num/1000000<=1125899906842624)then(a*num/1000000,true)else(0,false)
def feeG (p:Pol)(a:Int):Int×Bool:=if(partC a p.p).2&&polOk p then addC p.b (partC a p.p).1 else(0,false)
def cmpI (a b:Int):Int:=if a<b then-1 else if b<a then 1 else 0
def ordE (a b:Edge):Int:=if cmpI a.c b.c≠0 then cmpI a.c b.c else cmpI a.f b.f
def RightAt (l:List Edge)(i:Nat):Prop:=
  edgeOk (l.getD i noEdge)=true/\(0<i->ordE (l.getD (i-1) noEdge) (l.getD i noEdge)<0)/\
    ((0<i/\(l.getD (i-1) noEdge).c=(l.getD i noEdge).c)->¬(1<i/\(l.getD (i-2) noEdge).c=(l.getD i noEdge).c)/\(l.getD (i-1) noEdge).f=(l.getD i noEdge).t/\(l.getD (i-1) noEdge).t=(l.getD i noEdge).f/\(l.getD (i-1) noEdge).r=(l.getD i noEdge).r)
instance (l : List Edge) (i : Nat) : Decidable (RightAt l i) := by unfold RightAt; infer_instance
def RightP (l:List Edge):Prop:=∀i,i<l.length->RightAt l i
instance (l : List Edge) : Decidable (RightP l) := by unfold RightP; infer_instance
def rightG (l:List Edge):Bool:=decide (RightP l)
def WayAt (l:List Edge)(i:Nat):Prop:=edgeOk (l.getD i noEdge)=true/\(0<i->(l.getD (i-1) noEdge).t=(l.getD i noEdge).f)/\∀k,k<=i->(l.getD k noEdge).f≠(l.getD i noEdge).t
instance (l : List Edge) (i : Nat) : Decidable (WayAt l i) := by unfold WayAt; infer_instance
def WayP (l:List Edge):Prop:=(1<=l.length/\l.length<=8)/\∀i,i<l.length->WayAt l i
instance (l : List Edge) : Decidable (WayP l) := by unfold WayP; infer_instance
def wayG (l:List Edge):Bool:=decide (WayP l)
def nextC (e:Edge)(a x:Int):Option (Int×Int):=if(feeG e.pol a).2&&(addC a (feeG e.pol a).1).2 then some (a+(feeG e.pol a).1,x+e.pol.d)else none
def costF (a x:Int):List Edge->Except Int (Option (Int×Int)×List (Int×Int))
  |[]=> .ok (some (a,x),[])
  |e::t=>match costF a x t with
    | .error er=> .error er
    | .ok (none,_)=> .error 6
    | .ok (some (a1,x1),l)=>if inB a1 e.pol.l (min e.pol.m e.r)=false then .error 6 else if 1048576<x1 then .error 16 else .ok (nextC e a1 x1,(a1,x1)::l)
def costG (w:List Edge)(a x:Int):List Int×List Int×Int:=
  if wayG w=false then([],[],19)else if inB a 1 1125899906842624=false\/inB x 1 1048576=false then([],[],1)
  else match costF a x w with
    | .error er=>([],[],er)
    | .ok (_,l)=>(l.map Prod.fst,l.map Prod.snd,0)
def hopAt (w:List Edge)(sent till:List Int)(pts bl:List Nat)(i:Nat):Hop:=((w.getD (i+1) noEdge).t,(w.getD (i+1) noEdge).c,sent.getD (i+1) 0,till.getD (i+1) 0,pts.getD (i+1) 0,bl.getD i 0)
def hopsL (w:List Edge)(sent till:List Int)(pts bl:List Nat)(a x:Int):List Hop:=
  (List.range (w.length-1)).map (hopAt w sent till pts bl)++[(-1,0,a,x,pts.getD (w.length-1) 0,0)]
def hopsG (w:List Edge)(a x:Int)(pts bl:List Nat):List Hop×Int:=
  if(costG w a x).2.2≠0 then([],(costG w a x).2.2)else if pts.length≠w.length\/bl.length≠w.length-1 then([],1)
  else(hopsL w (costG w a x).1 (costG w a x).2.1 pts bl a x,0)
theorem inB_T {n lo hi:Int}(h:inB n lo hi=true):lo<=n/\n<=hi:=of_decide_eq_true h
theorem inB_F {n lo hi:Int}(h:inB n lo hi=false):¬(lo<=n/\n<=hi):=of_decide_eq_false h
theorem polOk_T {p:Pol}(h:polOk p=true):(0<=p.b/\p.b<=1125899906842624)/\(0<=p.l/\p.l<=p.m)/\(0<=p.m/\p.m<=1125899906842624)/\(0<=p.p/\p.p<=1000000)/\0<=p.d/\p.d<=1048576:=by
  simp only[polOk,Bool.and_eq_true]at h
  exact⟨inB_T h.1.1.1.1,inB_T h.1.1.1.2,inB_T h.1.1.2,inB_T h.1.2,inB_T h.2⟩
theorem edgeOk_T {e:Edge}(h:edgeOk e=true):(0<=e.f/\e.f<=11)/\(0<=e.t/\e.t<=11)/\e.f≠e.t/\(0<=e.c/\e.c<=39)/\(1<=e.r/\e.r<=1125899906842624)/\polOk e.pol=true:=by
  simp only[edgeOk,Bool.and_eq_true,decide_eq_true_eq]at h
  exact⟨inB_T h.1.1.1.1.1,inB_T h.1.1.1.1.2,h.1.1.1.2,inB_T h.1.1.2,inB_T h.1.2,h.2⟩
def PolI (p:Pol):Prop:=(-9223372036854775808<=p.b/\p.b<=9223372036854775807)/\(-9223372036854775808<=p.p/\p.p<=9223372036854775807)/\(-9223372036854775808<=p.d/\p.d<=9223372036854775807)/\(-9223372036854775808<=p.l/\p.l<=9223372036854775807)/\(-9223372036854775808<=p.m/\p.m<=9223372036854775807)
def EdgeI (e:Edge):Prop:=(-9223372036854775808<=e.f/\e.f<=9223372036854775807)/\(-9223372036854775808<=e.t/\e.t<=9223372036854775807)/\(-9223372036854775808<=e.c/\e.c<=9223372036854775807)/\(-9223372036854775808<=e.r/\e.r<=9223372036854775807)/\PolI e.pol
end Go.Gsp

namespace Go.Gsp
open Go.Osp
variable {a x am ex er:Int}{l:List (Int×Int)}{xs:List Edge}{j:Nat}
theorem drop_pred (xs:List Edge)(j:Nat)(h0:0<j)(hj:j<=xs.length):xs.drop (j-1)=xs.getD (j-1) noEdge::xs.drop j:=by
  rw[List.drop_eq_getElem_cons (by omega),show j-1+1=j by omega]
  simp[List.getD,show j-1<xs.length by omega]
theorem costF_err:∀(xs:List Edge) (j:Nat),costF a x (xs.drop j)= .error er->costF a x xs= .error er
  |_,0,h=>h
  |[],j+1,h=>by simpa using h
  |e::xs,j+1,h=>by
    have:=costF_err xs j (by simpa using h)
    simp[costF,this]
theorem costF_six (h0:0<j)(hj:j<=xs.length)(h:costF a x (xs.drop j)= .ok (some (am,ex),l))(h1:¬inB am (xs.getD (j-1) noEdge).pol.l (min (xs.getD (j-1) noEdge).pol.m (xs.getD (j-1) noEdge).r)=true):costF a x xs= .error 6:=by
  refine costF_err xs (j-1) ?_
  rw[drop_pred xs j h0 hj,costF,h]
  simp only[Bool.eq_false_iff.2 h1,if_true]
theorem costF_late (h0:0<j)(hj:j<=xs.length)(h:costF a x (xs.drop j)= .ok (some (am,ex),l))(h1:inB am (xs.getD (j-1) noEdge).pol.l (min (xs.getD (j-1) noEdge).pol.m (xs.getD (j-1) noEdge).r)=true)(h2:1048576<ex):costF a x xs= .error 16:=by
  refine costF_err xs (j-1) ?_
  rw[drop_pred xs j h0 hj,costF,h]
  simp[-List.getD_eq_getElem?_getD,h1,h2]
theorem costF_step (h0:0<j)(hj:j<=xs.length)(h:costF a x (xs.drop j)= .ok (some (am,ex),l))(h1:inB am (xs.getD (j-1) noEdge).pol.l (min (xs.getD (j-1) noEdge).pol.m (xs.getD (j-1) noEdge).r)=true)(h2:¬1048576<ex):
    costF a x (xs.drop (j-1))= .ok (nextC (xs.getD (j-1) noEdge) am ex,(am,ex)::l):=by
  rw[drop_pred xs j h0 hj,costF,h]
  simp[-List.getD_eq_getElem?_getD,h1,h2]
theorem costF_none (h0:0<j)(hj:j<=xs.length)(h:costF a x (xs.drop j)= .ok (none,l)):costF a x xs= .error 6:=by
  refine costF_err xs (j-1) ?_
  rw[drop_pred xs j h0 hj,costF,h]
theorem nextC_none {e:Edge}(h:¬(feeG e.pol am).2=true\/¬(addC am (feeG e.pol am).1).2=true):nextC e am ex=none:=by
  unfold nextC
  rw[if_neg]
  rw[Bool.and_eq_true]
  rintro⟨b,c⟩
  rcases h with h|h<;>contradiction
theorem addC_val {a b:Int}(h:(addC a b).2=true):(addC a b).1=a+b/\0<=a+b/\a+b<=1125899906842624:=by
  unfold addC at*
  split at h
  · rename_i hc
    simp only[coinB,Bool.and_eq_true,decide_eq_true_eq]at hc
    have c:=inB_T hc.1.1
    have d:=inB_T hc.1.2
    exact⟨by rw[if_pos (by simp[coinB,hc])],by omega,by omega⟩
  · cases h
theorem nextC_some {e:Edge}(h1:(feeG e.pol am).2=true)(h2:(addC am (feeG e.pol am).1).2=true):nextC e am ex=some ((addC am (feeG e.pol am).1).1,ex+e.pol.d):=by
  unfold nextC
  rw[if_pos (by simp[h1,h2]),(addC_val h2).1]
theorem costG_way {xs:List Edge}{a x:Int}(h:¬wayG xs=true):costG xs a x=([],[],19):=by unfold costG;rw[if_pos (by simpa using h)]
theorem costG_arg {xs:List Edge}{a x:Int}(h:wayG xs=true)(h1:¬inB a 1 1125899906842624=true\/¬inB x 1 1048576=true):costG xs a x=([],[],1):=by
  unfold costG
  rw[if_neg (by simp[h]),if_pos (by simpa using h1)]
theorem costG_er {xs:List Edge}{a x er:Int}(h:wayG xs=true)(h1:inB a 1 1125899906842624=true)(h2:inB x 1 1048576=true)(h3:costF a x xs= .error er):costG xs a x=([],[],er):=by
  unfold costG
  rw[if_neg (by simp[h]),if_neg (by simp[h1,h2]),h3]
theorem costG_ok {xs:List Edge}{a x:Int}{nx:Option (Int×Int)}{l:List (Int×Int)}(h:wayG xs=true)(h1:inB a 1 1125899906842624=true)(h2:inB x 1 1048576=true)(h3:costF a x xs= .ok (nx,l)):costG xs a x=(l.map Prod.fst,l.map Prod.snd,0):=by
  unfold costG
  rw[if_neg (by simp[h]),if_neg (by simp[h1,h2]),h3]
theorem rep_set (l:List Int)(v:Int)(j:Nat)(h:0<j):(List.replicate j 0++l).set (j-1) v=List.replicate (j-1) 0++v::l:=by
  rw[List.set_append_left _ _ (by simp;omega)]
  obtain⟨k,rfl⟩:∃k,j=k+1:=⟨j-1,by omega⟩
  rw[Nat.add_sub_cancel,List.replicate_succ',List.set_append_right _ _ (by simp)]
  simp
theorem polI_ok {p:Pol}(h:polOk p=true):PolI p:=by
  have:=polOk_T h
  refine⟨⟨?_,?_⟩,⟨?_,?_⟩,⟨?_,?_⟩,⟨?_,?_⟩,⟨?_,?_⟩⟩<;>omega
theorem costF_len:∀(w:List Edge) (n:Option (Int×Int)) (l:List (Int×Int)),costF a x w= .ok (n,l)->l.length=w.length
  |[],n,l,h=>by simp[costF]at h;rw[h.2];rfl
  |e::t,n,l,h=>by
    rw[costF]at h
    split at h
    · cases h
    · cases h
    · rename_i a1 x1 l1 heq
      have ih:=costF_len t _ _ heq
      split at h
      · cases h
      · split at h
        · cases h
        · injection h with h
          injection h with _ h
          rw[<-h,List.length_cons,List.length_cons,ih]
theorem costG_inv {w:List Edge}{a x:Int}(h:(costG w a x).2.2=0):wayG w=true/\inB a 1 1125899906842624=true/\inB x 1 1048576=true/\∃nx l,costF a x w= .ok (nx,l)/\costG w a x=(l.map Prod.fst,l.map Prod.snd,0)/\l.length=w.length:=by
  by_cases b:wayG w=true
  · by_cases c:inB a 1 1125899906842624=true
    · by_cases d:inB x 1 1048576=true
      · refine⟨b,c,d,?_⟩
        cases hf:costF a x w with
        |error er=>
          have he:=costG_er b c d hf
          rw[he]at h
          have hne:∀(w:List Edge) (er:Int),costF a x w= .error er->er=6\/er=16:=by
            intro w
            induction w with
            |nil=>intro er h;simp[costF]at h
            |cons e t ih=>
              intro er h
              rw[costF]at h
              split at h
              · rename_i heq;injection h with h;exact ih er (by rw[heq,h])
              · injection h with h;exact .inl h.symm
              · split at h
                · injection h with h;exact .inl h.symm
                · split at h
                  · injection h with h;exact .inr h.symm
                  · cases h
          have:=hne w er hf
          simp at h
          omega
        |ok p=>obtain⟨nx,l⟩:=p;exact⟨nx,l,rfl,costG_ok b c d hf,costF_len w nx l hf⟩
      · rw[costG_arg b (.inr d)]at h;simp at h
    · rw[costG_arg b (.inl c)]at h;simp at h
  · rw[costG_way b]at h;simp at h
theorem costG_lens {w:List Edge}{a x:Int}(h:(costG w a x).2.2=0):(costG w a x).1.length=w.length/\(costG w a x).2.1.length=w.length:=by
  obtain⟨_,_,_,nx,l,_,b,c⟩:=costG_inv h
  rw[b];simp[c]
theorem wayG_at {xs:List Edge}(h:wayG xs=true){i:Nat}(hi:i<xs.length):WayAt xs i:=(of_decide_eq_true h:WayP xs).2 i hi
theorem wayG_len {xs:List Edge}(h:wayG xs=true):1<=xs.length/\xs.length<=8:=(of_decide_eq_true h:WayP xs).1
end Go.Gsp
namespace Go.Gsp
end Go.Gsp
namespace Go.Gsp
variable {a x:Int}
theorem costF_at:∀(xs:List Edge) (nx:Option (Int×Int)) (l:List (Int×Int)),costF a x xs= .ok (nx,l)->
    (∀i,i<xs.length->inB (l.getD i (0,0)).1 (xs.getD i noEdge).pol.l (min (xs.getD i noEdge).pol.m (xs.getD i noEdge).r)=true/\¬1048576<(l.getD i (0,0)).2)/\
    (∀i,i+1<xs.length->nextC (xs.getD (i+1) noEdge) (l.getD (i+1) (0,0)).1 (l.getD (i+1) (0,0)).2=some (l.getD i (0,0)))/\
    (0<xs.length->l.getD (xs.length-1) (0,0)=(a,x))/\nx=(if xs.length=0 then some (a,x)else nextC (xs.getD 0 noEdge) (l.getD 0 (0,0)).1 (l.getD 0 (0,0)).2)
  |[],nx,l,h=>by
    simp[costF]at h
    obtain⟨rfl,rfl⟩:=h
    exact⟨fun i hi=>absurd hi (Nat.not_lt_zero _),fun i hi=>absurd hi (Nat.not_lt_zero _),fun h=>absurd h (Nat.lt_irrefl _),rfl⟩
  |e::t,nx,l,h=>by
    rw[costF]at h
    split at h
    · cases h
    · cases h
    · rename_i a1 x1 l1 heq
      obtain⟨c,d,f,b⟩:=costF_at t _ _ heq
      split at h
      · cases h
      · rename_i hin
        split at h
        · cases h
        · rename_i hx
          injection h with h
          injection h with hn hl
          subst hl
          refine⟨?_,?_,?_,?_⟩
          · intro i hi
            cases i with
            |zero=>exact⟨by simpa using hin,hx⟩
            |succ i=>have:=c i (by simpa using hi);simpa using this
          · intro i hi
            cases i with
            |zero=>
              have ht:0<t.length:=by simpa using hi
              rw[if_neg (by omega)]at b
              simp only[List.getD_cons_succ,List.getD_cons_zero]at*
              rw[<-b]
            |succ i=>have:=d i (by simpa using hi);simpa using this
          · intro _
            cases t with
            |nil=>simp at b;obtain⟨rfl,rfl⟩:=b;rfl
            |cons e2 t2=>have:=f (by simp);simpa using this
          · rw[if_neg (by simp)];exact hn.symm
theorem nextC_inv {e:Edge}{am ex:Int}{p:Int×Int}(h:nextC e am ex=some p):(feeG e.pol am).2=true/\(addC am (feeG e.pol am).1).2=true/\p=(am+(feeG e.pol am).1,ex+e.pol.d):=by
  unfold nextC at h
  split at h
  · rename_i hc
    rw[Bool.and_eq_true]at hc
    injection h with h
    exact⟨hc.1,hc.2,h.symm⟩
  · cases h
structure Costs (w:List Edge)(a x:Int)(S T:List Int):Prop where
  way:wayG w=true
  amt:1<=a/\a<=1125899906842624
  exp:1<=x/\x<=1048576
  lenS:S.length=w.length
  lenT:T.length=w.length
  len:1<=w.length/\w.length<=8
  room:∀i,i<w.length->((w.getD i noEdge).pol.l<=S.getD i 0/\S.getD i 0<=(w.getD i noEdge).pol.m/\S.getD i 0<=(w.getD i noEdge).r)/\T.getD i 0<=1048576
  endS:S.getD (w.length-1) 0=a
  endT:T.getD (w.length-1) 0=x
  step:∀i,i+1<w.length->(feeG (w.getD (i+1) noEdge).pol (S.getD (i+1) 0)).2=true/\(addC (S.getD (i+1) 0) (feeG (w.getD (i+1) noEdge).pol (S.getD (i+1) 0)).1).2=true/\S.getD i 0=S.getD (i+1) 0+(feeG (w.getD (i+1) noEdge).pol (S.getD (i+1) 0)).1/\T.getD i 0=T.getD (i+1) 0+(w.getD (i+1) noEdge).pol.d
theorem map_getD {α β:Type}(f:α->β)(l:List α)(i:Nat)(z:α):(l.map f).getD i (f z)=f (l.getD i z):=by
  simp only[List.getD,List.getElem?_map]
  cases l[i]? <;>rfl
theorem costs_of {w:List Edge}(h:(costG w a x).2.2=0):Costs w a x (costG w a x).1 (costG w a x).2.1:=by
  obtain⟨hw,ha,hx,nx,l,hF,hC,hl⟩:=costG_inv h
  obtain⟨k,m,e,n⟩:=costF_at w nx l hF
  have hwl:=wayG_len hw
  rw[hC]
  have b:∀i,(l.map Prod.fst).getD i 0=(l.getD i (0,0)).1:=fun i=>map_getD Prod.fst l i (0,0)
  have c:∀i,(l.map Prod.snd).getD i 0=(l.getD i (0,0)).2:=fun i=>map_getD Prod.snd l i (0,0)
  refine⟨hw,inB_T ha,inB_T hx,by simp[hl],by simp[hl],hwl,?_,?_,?_,?_⟩
  · intro i hi
    obtain⟨d,f⟩:=k i hi
    have:=inB_T d
    show(_<=(l.map Prod.fst).getD i 0/\(l.map Prod.fst).getD i 0<=_/\(l.map Prod.fst).getD i 0<=_)/\(l.map Prod.snd).getD i 0<=_
    rw[b,c]
    omega
  · show(l.map Prod.fst).getD _ 0=a
    rw[b,e (by omega)]
  · show(l.map Prod.snd).getD _ 0=x
    rw[c,e (by omega)]
  · intro i hi
    obtain⟨d,f,j⟩:=nextC_inv (m i hi)
    show(feeG _ ((l.map Prod.fst).getD _ 0)).2=true/\(addC ((l.map Prod.fst).getD _ 0) (feeG _ ((l.map Prod.fst).getD _ 0)).1).2=true/\(l.map Prod.fst).getD _ 0=(l.map Prod.fst).getD _ 0+(feeG _ ((l.map Prod.fst).getD _ 0)).1/\(l.map Prod.snd).getD _ 0=(l.map Prod.snd).getD _ 0+_
    rw[b,c,b,c]
    exact⟨d,f,by rw[j],by rw[j]⟩
theorem feeG_bound (p:Pol)(am:Int):0<=(feeG p am).1/\(feeG p am).1<=1125899906842624:=by
  unfold feeG
  split
  · unfold addC
    split
    · rename_i hc
      simp only[coinB,Bool.and_eq_true,decide_eq_true_eq]at hc
      have b:=inB_T hc.1.1
      have c:=inB_T hc.1.2
      show 0<=_+_/\_+_<=_
      omega
    · show(0:Int)<=0/\(0:Int)<=_
      omega
  · show(0:Int)<=0/\(0:Int)<=_
    omega
end Go.Gsp
namespace Go.Gsp
theorem getD_drop' (xs:List Edge)(k i:Nat):(xs.drop k).getD i noEdge=xs.getD (k+i) noEdge:=by simp[List.getD,List.getElem?_drop]
theorem way_drop {xs:List Edge}{k:Nat}(h:wayG xs=true)(hk:k<xs.length):wayG (xs.drop k)=true:=by
  have hl:=wayG_len h
  refine decide_eq_true ⟨by rw[List.length_drop];omega,fun i hi=>?_⟩
  rw[List.length_drop]at hi
  obtain⟨b,c,d⟩:=wayG_at h (i:=k+i) (by omega)
  refine⟨by rw[getD_drop'];exact b,fun e=>?_,fun q hq=>?_⟩
  · rw[getD_drop',getD_drop',show k+(i-1)=k+i-1 by omega];exact c (by omega)
  · rw[getD_drop',getD_drop'];exact d (k+q) (by omega)
theorem way_once {xs:List Edge}(h:wayG xs=true){i j:Nat}(hji:j<i)(hi:i<xs.length):(xs.getD j noEdge).f≠(xs.getD i noEdge).f/\(xs.getD j noEdge).t≠(xs.getD i noEdge).t/\(xs.getD j noEdge).f≠(xs.getD i noEdge).t:=by
  have hf:∀i,0<i->i<xs.length->(xs.getD (i-1) noEdge).t=(xs.getD i noEdge).f:=fun i c hi=>(wayG_at h hi).2.1 c
  have hn:∀i k,i<xs.length->k<=i->(xs.getD k noEdge).f≠(xs.getD i noEdge).t:=fun i k hi hk=>(wayG_at h hi).2.2 k hk
  refine⟨fun he=>?_,fun he=>?_,hn i j hi (by omega)⟩
  · have b:=hf i (by omega) hi
    exact hn (i-1) j (by omega) (by omega) (by rw[he,b])
  · have b:=hf (j+1) (by omega) (by omega)
    rw[show j+1-1=j by omega]at b
    exact hn i (j+1) hi (by omega) (by rw[<-b,he])
variable {a x:Int}
theorem costF_drop:∀(xs:List Edge) (k:Nat) (nx:Option (Int×Int)) (l:List (Int×Int)),costF a x xs= .ok (nx,l)->∃n2,costF a x (xs.drop k)= .ok (n2,l.drop k)
  |xs,0,nx,l,h=>⟨nx,h⟩
  |[],k+1,nx,l,h=>by
    have:l=[]:=by simp[costF]at h;exact h.2
    subst this
    exact⟨nx,by simpa using h⟩
  |e::t,k+1,nx,l,h=>by
    rw[costF]at h
    split at h
    · cases h
    · cases h
    · rename_i a1 x1 l1 heq
      split at h
      · cases h
      · split at h
        · cases h
        · injection h with h
          injection h with _ hl
          subst hl
          simpa using costF_drop t k _ _ heq
theorem costG_drop {w:List Edge}(h:(costG w a x).2.2=0){k:Nat}(hk:k<w.length):costG (w.drop k) a x=((costG w a x).1.drop k,(costG w a x).2.1.drop k,0):=by
  obtain⟨hw,ha,hx,nx,l,hF,hC,hl⟩:=costG_inv h
  obtain⟨c,b⟩:=costF_drop w k nx l hF
  rw[costG_ok (way_drop hw hk) ha hx b,hC]
  simp[List.map_drop]
theorem Costs.ge {w:List Edge}{S T:List Int}(h:Costs w a x S T):∀d i,i+d+1=w.length->a<=S.getD i 0/\x<=T.getD i 0:=by
  intro d
  induction d with
  |zero=>intro i hi;have b:=h.endS;have c:=h.endT;rw[show w.length-1=i by omega]at b c;omega
  |succ d ih=>
    intro i hi
    have b:=ih (i+1) (by omega)
    obtain⟨e,f,j,k⟩:=h.step i (by omega)
    have hf:=feeG_bound (w.getD (i+1) noEdge).pol (S.getD (i+1) 0)
    have hok:=edgeOk_T (wayG_at h.way (i:=i+1) (by omega)).1
    have hp:=polOk_T hok.2.2.2.2.2
    omega
theorem Costs.inS {w:List Edge}{S T:List Int}(h:Costs w a x S T){i:Nat}(hi:i<w.length):inB (S.getD i 0) 1 1125899906842624=true/\inB (T.getD i 0) 1 1048576=true:=by
  have b:=h.ge (w.length-1-i) i (by omega)
  have c:=h.room i hi
  have hok:=edgeOk_T (wayG_at h.way hi).1
  have:=h.amt
  have:=h.exp
  exact⟨decide_eq_true (by omega),decide_eq_true (by omega)⟩
end Go.Gsp
namespace Go.Gsp
open Go.Osp Go.Num
structure Cnd where
  fr:Int
  id:Int
  am:Int
  pt:Nat
  ex:Int
deriving DecidableEq
structure Bnd where
  jam:Int
  bar:Int
  nap:Int
deriving DecidableEq
def passedB (c:Cnd):Bool:=inB c.am 1 1125899906842624&&inB c.ex 1 1048576&&decide (c.pt≠1)&&right c.pt
def worldB (h:Int)(b:Bnd):Bool:=inB h 0 1048576&&inB b.jam 0 1000&&inB b.bar 0 1000&&inB b.nap 0 1000
def toldC (h:Hop):Cnd:=⟨0,0,h.2.2.1,h.2.2.2.2.1,h.2.2.2.1⟩
def ownP (h:Hop):Nat:=addP h.2.2.2.2.1 (base h.2.2.2.2.2)
def lastE (h:Hop)(x:Cnd)(ht:Int)(b:Bnd):Int:=
  if h.1= -1/\passedB (toldC h)=true/\passedB x=true/\worldB ht b=true then
    if x.pt=ownP h then(if x.am<h.2.2.1 then 13 else if x.ex<h.2.2.2.1\/x.ex-ht<=b.nap then 16 else 0)else 23
  else 1
end Go.Gsp

namespace Go.Osp
open Go.Hsp Go.Num
def nPart:List Byte:=[112,97,114,116]
def nSplit:List Byte:=[115,112,108,105,116]
def partD (m i:Nat):Nat:=fromB (tag nPart [be8 m,[BitVec.ofNat 8 i]])
def partK (s k:Nat):List Nat:=(List.range k).map (partD (addS 0 s))
def partsL (s:Nat)(n:Int):List Nat:=if n<1\/8<n then[]else partK s (n.toNat-1)++[addS s (negS (sumS (partK s (n.toNat-1))))]
theorem partK_len (s k:Nat):(partK s k).length=k:=by simp[partK]
theorem partK_succ (s k:Nat):partK s (k+1)=partK s k++[partD (addS 0 s) k]:=by simp[partK,List.range_succ]
theorem partK_lt (s k:Nat):∀t∈partK s k,t<q:=fun t ht=>by
  obtain⟨i,_,rfl⟩:=List.mem_map.1 ht
  exact fromB_lt _
theorem partsL_len {s:Nat}{n:Int}(h1:1<=n)(h8:n<=8):(partsL s n).length=n.toNat:=by
  unfold partsL
  rw[if_neg (by omega),List.length_append,partK_len]
  show n.toNat-1+1=n.toNat
  omega
theorem partsL_none {s:Nat}{n:Int}(h:n<1\/8<n):partsL s n=[]:=by unfold partsL;rw[if_pos h]
theorem partsL_le (s:Nat)(n:Int):(partsL s n).length<=8:=by
  by_cases h:n<1\/8<n
  · rw[partsL_none h];exact Nat.zero_le _
  · rw[partsL_len (by omega) (by omega)];omega
theorem partsL_len_le (s n:Nat):(partsL s (n:Int)).length<=n:=by
  by_cases h:(n:Int)<1\/8<(n:Int)
  · rw[partsL_none h];exact Nat.zero_le _
  · rw[partsL_len (by omega) (by omega)];omega
theorem partsL_lt (s:Nat)(n:Int):∀t∈partsL s n,t<q:=fun t ht=>by
  unfold partsL at ht
  split at ht
  · cases ht
  · rcases List.mem_append.1 ht with h|h
    · exact partK_lt _ _ t h
    · rw[List.mem_singleton.1 h];exact addS_lt _ _
theorem sumS_app1 (l:List Nat)(x:Nat):sumS (l++[x])=addS (sumS l) x:=by simp[sumS]
theorem sumS_lt:∀l:List Nat,sumS l<q:=fun l=>by
  rcases List.eq_nil_or_concat l with h|⟨l',x,h⟩
  · subst h;exact q_pos
  · rw[h,List.concat_eq_append,sumS_app1];exact addS_lt _ _
theorem partsL_whole {s:Nat}{n:Int}(h1:1<=n)(h8:n<=8):sumS (partsL s n)=s%q:=by
  unfold partsL
  rw[if_neg (by omega),sumS_app1]
  have hl:=sumS_lt (partK s (n.toNat-1))
  generalize sumS (partK s (n.toNat-1))=z at hl
  rw[addS_eq,addS_eq s]
  unfold negS
  rw[Nat.add_mod_mod,Nat.mod_eq_of_lt hl]
  have hq:=q_pos
  have hz:(q-z)%q=if z=0 then 0 else q-z:=by
    split
    · rename_i e;rw[e,Nat.sub_zero,Nat.mod_self]
    · exact Nat.mod_eq_of_lt (by omega)
  rw[hz]
  split
  · rename_i e;rw[e];simp
  · rw[show z+(s+(q-z))=s+q by omega,Nat.add_mod_right]
structure Pln where
  pts:List Nat
  bl:List Nat
def noPln:Pln:=⟨[],[]⟩
def seedD (seed:List Byte)(i:Nat):List Byte:=tag nSplit [seed,[BitVec.ofNat 8 i]]
def PlnMay (t n:Nat):Prop:=base t≠1/\1<=n/\n<=8
def planT (t:Nat)(sd:List Byte)(n:Nat):Pln:=⟨fromP (base t) (blindsP sd (n-1)),blindsP sd (n-1)⟩
def planAt (s:Nat)(seed:List Byte)(ns:List Nat)(i:Nat):Pln:=planT ((partsL s ns.length).getD i 0) (seedD seed i) (ns.getD i 0)
def planK (s:Nat)(seed:List Byte)(ns:List Nat)(k:Nat):List Pln:=(List.range k).map (planAt s seed ns)
instance (t n : Nat) : Decidable (PlnMay t n) := by unfold PlnMay; infer_instance
def PlansMay (s:Nat)(ns:List Nat):Prop:=∀i,i<(partsL s ns.length).length->PlnMay ((partsL s ns.length).getD i 0) (ns.getD i 0)
instance (s : Nat) (ns : List Nat) : Decidable (PlansMay s ns) := by unfold PlansMay; infer_instance
def plansL (s:Nat)(seed:List Byte)(ns:List Nat):List Pln:=if PlansMay s ns then planK s seed ns (partsL s ns.length).length else[]
theorem planK_len (s:Nat)(seed:List Byte)(ns:List Nat)(k:Nat):(planK s seed ns k).length=k:=by simp[planK]
theorem planK_succ (s:Nat)(seed:List Byte)(ns:List Nat)(k:Nat):planK s seed ns (k+1)=planK s seed ns k++[planAt s seed ns k]:=by simp[planK,List.range_succ]
theorem planK_at (s:Nat)(seed:List Byte)(ns:List Nat){k i:Nat}(h:i<k):(planK s seed ns k).getD i noPln=planAt s seed ns i:=by simp[planK,List.getD,h]
theorem plansL_yes {s:Nat}{seed:List Byte}{ns:List Nat}(h:PlansMay s ns):plansL s seed ns=planK s seed ns (partsL s ns.length).length:=if_pos h
theorem plansL_no {s:Nat}{seed:List Byte}{ns:List Nat}(h:¬PlansMay s ns):plansL s seed ns=[]:=if_neg h
theorem planT_len (t:Nat)(sd:List Byte){n:Nat}(h:1<=n):(planT t sd n).pts.length=n/\(planT t sd n).bl.length=n-1:=by
  unfold planT
  simp only
  rw[fromP_length,blindsP_length]
  omega
theorem set_fill {α:Type}(l:List α)(z v:α)(n k:Nat)(hl:l.length=k)(hk:k<n):(l++List.replicate (n-k) z).set k v=(l++[v])++List.replicate (n-(k+1)) z:=by
  subst hl
  rw[List.set_append_right _ _ (Nat.le_refl _),Nat.sub_self,show n-l.length=(n-(l.length+1))+1 by omega,List.replicate_succ,List.set_cons_zero,List.append_assoc]
  rfl
end Go.Osp

namespace Go.Osp
open Go.Hsp Go.Num
theorem map_base_at (l:List Nat){i:Nat}(h:i<l.length):(l.map base).getD i 0=base (l.getD i 0):=by simp[List.getD,h]
theorem planT_at (t:Nat)(sd:List Byte)(n:Nat){i:Nat}(h:i<n):(planT t sd n).pts.getD i 0=base ((tP t (planT t sd n).bl).getD i 0):=by
  show(fromP (base t) (blindsP sd (n-1))).getD i 0=base ((tP t (blindsP sd (n-1))).getD i 0)
  rw[fromP_base,map_base_at]
  rw[tP_length,blindsP_length];omega
theorem planT_last (t:Nat)(sd:List Byte){n:Nat}(h:1<=n):(planT t sd n).pts.getD (n-1) 0=base t:=by
  rw[planT_at t sd n (by omega)]
  have:=tP_last t (planT t sd n).bl
  rw[(planT_len t sd h).2]at this
  rw[this]
theorem base_ne {t:Nat}(ht:t<q)(h0:t≠0):base t≠1:=base_ne_one (by rw[Nat.mod_eq_of_lt ht];exact h0)
theorem plans_may {s:Nat}{ns:List Nat}(h0:∀i,i<(partsL s ns.length).length->(partsL s ns.length).getD i 0≠0)(hn:∀i,i<ns.length->1<=ns.getD i 0/\ns.getD i 0<=8):PlansMay s ns:=fun i hi=>by
  have hm:(partsL s ns.length).getD i 0∈partsL s ns.length:=by simp[List.getD,hi]
  have:=partsL_len_le s ns.length
  exact⟨base_ne (partsL_lt _ _ _ hm) (h0 i hi),hn i (by omega)⟩
end Go.Osp

namespace Go.Gsp
open Go.Osp Go.Num Go.Hsp
theorem addP_base0 {p:Nat}(h:right p=true):addP p (base 0)=p:=by
  have hb:base 0=1:=by decide+kernel
  have b:=(right_iff p).1 h
  rw[hb,addP,taken,taken,if_pos h,if_pos right_one,Nat.mul_one,Nat.mod_eq_of_lt b.2.1]
theorem right_l64 {p:Nat}(h:right p=true):p<18446744073709551616:=Nat.lt_trans ((right_iff p).1 h).2.1 M_lt
theorem hopsW_at (w:List Edge)(s t:List Int)(p b:List Nat)(a x:Int)(i:Nat):(hopsL w s t p b a x).getD i noHop=if i<w.length-1 then hopAt w s t p b i else if i=w.length-1 then(-1,0,a,x,p.getD (w.length-1) 0,0)else noHop:=by
  unfold hopsL
  by_cases h:i<w.length-1
  · rw[if_pos h];simp[List.getD,List.getElem?_append_left,h]
  · rw[if_neg h]
    by_cases c:i=w.length-1
    · rw[if_pos c,c];simp[List.getD]
    · rw[if_neg c,List.getD_eq_getElem?_getD,List.getElem?_eq_none (by simp;omega)];rfl
def cndW (S T:List Int)(pts:List Nat)(i:Nat):Cnd:=⟨0,0,S.getD i 0,pts.getD i 0,T.getD i 0⟩
structure Wk (xs:List Edge)(a x:Int)(S T:List Int)(pts bl:List Nat):Prop where
  cs:Costs xs a x S T
  lp:pts.length=xs.length
  lb:bl.length=xs.length-1
  rt:∀j,j<xs.length->right (pts.getD j 0)=true
  pa:∀i,i+1<xs.length->pts.getD i 0=addP (pts.getD (i+1) 0) (base (bl.getD i 0))
  bq:∀b∈bl,b<q
section
variable {xs:List Edge}{a x:Int}{S T:List Int}{pts bl:List Nat}{ht:Int}{b:Bnd}
theorem Wk.hops (h:Wk xs a x (costG xs a x).1 (costG xs a x).2.1 pts bl)(hc:(costG xs a x).2.2=0):hopsG xs a x pts bl=(hopsL xs (costG xs a x).1 (costG xs a x).2.1 pts bl a x,0):=by
  unfold hopsG
  rw[if_neg (by simpa using hc),if_neg (by have:=h.lp;have:=h.lb;omega)]
theorem Wk.len (h:Wk xs a x S T pts bl):(hopsL xs S T pts bl a x).length=xs.length:=by
  have:=h.cs.len
  simp[hopsL];omega
theorem Wk.at_ (h:Wk xs a x S T pts bl){i:Nat}(hi:i+1<xs.length):(hopsL xs S T pts bl a x).getD i noHop=hopAt xs S T pts bl i:=by rw[hopsW_at,if_pos (by omega)]
theorem Wk.fin (h:Wk xs a x S T pts bl):(hopsL xs S T pts bl a x).getD (xs.length-1) noHop=(-1,0,a,x,pts.getD (xs.length-1) 0,0):=by rw[hopsW_at,if_neg (by omega),if_pos rfl]
theorem Wk.one (h:Wk xs a x S T pts bl){i:Nat}(hi:i<xs.length):HopOk ((hopsL xs S T pts bl a x).getD i noHop)/\mayB ((hopsL xs S T pts bl a x).getD i noHop)=true/\(((hopsL xs S T pts bl a x).getD i noHop).1<0↔i+1=xs.length):=by
  have cs:=h.cs
  have hq:(q:Nat)<18446744073709551616:=by decide
  by_cases e:i+1<xs.length
  · rw[h.at_ e]
    have ho:=edgeOk_T (wayG_at cs.way (i:=i+1) e).1
    have hS:=cs.inS e
    have b:=inB_T hS.1
    have d:=inB_T hS.2
    have hb:bl.getD i 0<q:=h.bq _ (by have:=h.lb;simp[List.getD,show i<bl.length by omega])
    have hr:=h.rt (i+1) e
    have hl:=right_l64 hr
    refine⟨⟨?_,?_,?_,?_,?_,?_⟩,?_,?_⟩
    · show I64 (xs.getD (i+1) noEdge).t;unfold I64;omega
    · show I64 (xs.getD (i+1) noEdge).c;unfold I64;omega
    · show I64 (S.getD (i+1) 0);unfold I64;omega
    · show I64 (T.getD (i+1) 0);unfold I64;omega
    · exact hl
    · show bl.getD i 0<_;omega
    · unfold mayB hopAt
      simp only[Bool.and_eq_true,decide_eq_true_eq,Bool.or_eq_true]
      exact⟨⟨⟨⟨by omega,by omega⟩,by omega⟩,by omega⟩,hb,.inr hr⟩
    · show(xs.getD (i+1) noEdge).t<0↔_;omega
  · have e':i=xs.length-1:=by omega
    rw[e',h.fin]
    have hr:=h.rt (xs.length-1) (by omega)
    have hl:=right_l64 hr
    have ha:=cs.amt
    have hx:=cs.exp
    refine⟨⟨by unfold I64;simp,by unfold I64;simp,by unfold I64;simp only;omega,by unfold I64;simp only;omega,hl,by show 0<_;decide⟩,?_,?_⟩
    · unfold mayB
      simp only[Bool.and_eq_true,decide_eq_true_eq,Bool.or_eq_true]
      exact⟨⟨⟨⟨by omega,by omega⟩,by omega⟩,by omega⟩,q_pos,.inr hr⟩
    · simp only;omega
theorem Wk.ok (h:Wk xs a x S T pts bl):∀y∈hopsL xs S T pts bl a x,HopOk y:=fun y hy=>by
  obtain⟨i,hi,rfl⟩:=List.mem_iff_getElem.1 hy
  have:=(h.one (i:=i) (by rw[<-h.len];exact hi)).1
  rwa [show(hopsL xs S T pts bl a x).getD i noHop=(hopsL xs S T pts bl a x)[i] by simp[List.getD,hi]]at this
theorem Wk.may (h:Wk xs a x S T pts bl){ks:List Nat}(hk:ks.length=xs.length):hopsOk ks (hopsL xs S T pts bl a x)=true:=by
  unfold hopsOk
  rw[h.len,hk]
  simp only[decide_true,Bool.true_and,List.all_eq_true,List.mem_range]
  intro i hi
  obtain⟨_,b,c⟩:=h.one hi
  rw[show((0,0,0,0,0,0):Hop)=noHop from rfl,b,Bool.true_and]
  exact decide_eq_true (decide_eq_decide.2 c)
theorem Wk.wrap (h:Wk xs a x S T pts bl){own:List Nat}(hl:own.length=xs.length)(ho:∀k∈own,k≠0/\k<q):(keysOk (own.map base)&&hopsOk (own.map base) (hopsL xs S T pts bl a x))=true:=by
  have:=h.cs.len
  rw[keysOk_base own ho (by omega) (by omega),h.may (by rw[List.length_map];exact hl)];rfl
theorem cndW_passed (hcs:Costs xs a x S T){i:Nat}(hi:i<xs.length)(h1:pts.getD i 0≠1)(hr:right (pts.getD i 0)=true):passedB (cndW S T pts i)=true:=by
  have:=hcs.inS hi
  simp only[passedB,cndW,this.1,this.2,hr,Bool.true_and,Bool.and_true,decide_eq_true_eq]
  exact decide_eq_true h1
theorem Wk.last (h:Wk xs a x S T pts bl)(h1:∀j,j<xs.length->pts.getD j 0≠1)(hw:worldB ht b=true)(hx:ht<x-b.nap):
    lastE ((hopsL xs S T pts bl a x).getD (xs.length-1) noHop) (cndW S T pts (xs.length-1)) ht b=0:=by
  rw[h.fin]
  have hcs:=h.cs
  have hl:=hcs.len
  have hS:=hcs.endS
  have hT:=hcs.endT
  have hp:=cndW_passed hcs (i:=xs.length-1) (by omega) (h1 _ (by omega)) (h.rt _ (by omega))
  have e:toldC (-1,0,a,x,pts.getD (xs.length-1) 0,0)=cndW S T pts (xs.length-1):=by simp only[toldC,cndW,hS,hT]
  unfold lastE
  rw[if_pos ⟨rfl,by rw[e];exact hp,hp,hw⟩,if_pos (show(cndW S T pts (xs.length-1)).pt=ownP (-1,0,a,x,pts.getD (xs.length-1) 0,0)from(addP_base0 (h.rt _ (by omega))).symm),if_neg (by simp only[cndW,hS];omega),if_neg (by simp only[cndW,hT];omega)]
end
end Go.Gsp

namespace Go.Gsp
open Go.Osp Go.Num
structure Part where
  ch:Int
  id:Int
  am:Int
  ex:Int
  pt:Nat
  bl:Nat
deriving DecidableEq
def noPart:Part:=⟨0,0,0,0,0,0⟩
structure Paid where
  ch:Int
  id:Int
  sec:Nat
deriving DecidableEq
def noPaid:Paid:=⟨0,0,0⟩
structure Pay where
  sec:Nat
  tot:Int
  by_:Int
  lst:Int
  held:List Part
  sum:Int
  ovr:Bool
  paid:Bool
deriving DecidableEq
def keyP (x:Part):Int×Int:=(x.ch,x.id)
def opensP (s:Nat)(x:Part):Bool:=decide (x.bl<q)&&decide (base (addS s x.bl)=x.pt)
def mayP (p:Pay)(hk:Int×Int->Bool)(x:Part)(ht:Int):Int×Int:=
  if p.ovr=true then(0,14)else if p.by_<=ht then(0,16)else if x.am<1\/1125899906842624<x.am then(0,1)else if x.ex<p.lst then(0,16)
  else if hk (keyP x)=true then(0,4)else if opensP p.sec x=false then(0,23)else if 8<=p.held.length then(0,3)
  else if(addC p.sum x.am).2=false then(0,6)else((addC p.sum x.am).1,0)
def paidOf (s:Nat)(x:Part):Paid:=⟨x.ch,x.id,addS s x.bl⟩
end Go.Gsp

namespace Go.Gsp
open Go.Osp Go.Num
abbrev PSt:=List (Int×Pay)
def insP (x:Int×Pay):PSt->PSt
  |[]=>[x]
  |y::l=>if y.1<x.1 then y::insP x l else x::y::l
def srtP (l:PSt):PSt:=l.foldl (fun s x=>insP x s) []
theorem insP_perm (x:Int×Pay):∀l:PSt,(insP x l).Perm (x::l)
  |[]=>List.Perm.refl _
  |y::l=>by
    unfold insP
    split
    · exact((insP_perm x l).cons y).trans (List.Perm.swap x y l)
    · exact List.Perm.refl _
theorem insP_map (f:Int×Pay->Int×Pay)(hf:∀y,(f y).1=y.1)(x:Int×Pay):∀l:PSt,insP (f x) (l.map f)=(insP x l).map f
  |[]=>rfl
  |y::l=>by
    simp only[List.map_cons,insP,hf]
    split
    · simp only[List.map_cons,insP_map f hf x l]
    · rfl
theorem foldl_map (f:Int×Pay->Int×Pay)(hf:∀y,(f y).1=y.1):∀(l s:PSt),(l.map f).foldl (fun s x=>insP x s) (s.map f)=(l.foldl (fun s x=>insP x s) s).map f
  |[],_=>rfl
  |x::l,s=>by
    simp only[List.map_cons,List.foldl_cons]
    rw[insP_map f hf,foldl_map f hf l]
theorem srtP_map (f:Int×Pay->Int×Pay)(hf:∀y,(f y).1=y.1)(l:PSt):srtP (l.map f)=(srtP l).map f:=foldl_map f hf l []
theorem srtP_snoc (l:PSt)(x:Int×Pay):srtP (l++[x])=insP x (srtP l):=by simp[srtP,List.foldl_append]
theorem foldl_perm:∀(l s:PSt),(l.foldl (fun s x=>insP x s) s).Perm (l++s)
  |[],_=>List.Perm.refl _
  |x::l,s=>by
    simp only[List.foldl_cons,List.cons_append]
    exact(foldl_perm l (insP x s)).trans (((insP_perm x s).append_left l).trans List.perm_middle)
theorem srtP_perm (l:PSt):(srtP l).Perm l:=by
  have:=foldl_perm l []
  rw[List.append_nil]at this
  exact this
def Srt (l:PSt):Prop:=l.Pairwise fun a b=>a.1<=b.1
theorem insP_srt (x:Int×Pay):∀l:PSt,Srt l->Srt (insP x l)
  |[],_=>by simp[insP,Srt]
  |y::l,h=>by
    unfold Srt at h
    rw[List.pairwise_cons]at h
    unfold insP
    split
    · rename_i hlt
      unfold Srt
      rw[List.pairwise_cons]
      refine⟨fun z hz=>?_,insP_srt x l h.2⟩
      rcases List.mem_cons.1 ((insP_perm x l).mem_iff.1 hz)with rfl|hz
      · omega
      · exact h.1 z hz
    · rename_i hlt
      unfold Srt
      rw[List.pairwise_cons,List.pairwise_cons]
      refine⟨fun z hz=>?_,h.1,h.2⟩
      rcases List.mem_cons.1 hz with rfl|hz
      · omega
      · have:=h.1 z hz;omega
theorem sorted_one:∀{a b:List Int},a.Perm b->a.Pairwise (· <= ·)->b.Pairwise (· <= ·)->a=b
  |[],b,h,_,_=>(List.Perm.nil_eq h)
  |x::a,[],h,_,_=>absurd h.length_eq (by simp)
  |x::a,y::b,h,ha,hb=>by
    rw[List.pairwise_cons]at ha hb
    have h1:x=y:=by
      have hx:x∈y::b:=h.mem_iff.1 (List.mem_cons_self)
      have hy:y∈x::a:=h.mem_iff.2 (List.mem_cons_self)
      rcases List.mem_cons.1 hx with h1|h1
      · exact h1
      · rcases List.mem_cons.1 hy with c|c
        · exact c.symm
        · have:=ha.1 y c;have:=hb.1 x h1;omega
    subst h1
    rw[sorted_one (List.Perm.cons_inv h) ha.2 hb.2]
def getP (n:Int)(s:PSt):Option Pay:=(s.find? fun y=>decide (y.1=n)).map (·.2)
theorem getP_mem {n:Int}{s:PSt}{p:Pay}(h:getP n s=some p):(n,p)∈s:=by
  unfold getP at h
  cases hf:s.find? (fun y=>decide (y.1=n))with
  |none=>rw[hf]at h;cases h
  |some y=>
    rw[hf]at h
    have d:=List.mem_of_find?_eq_some hf
    have c:=List.find?_some hf
    simp at h c
    obtain⟨a,b⟩:=y
    simp at h c
    subst c h
    exact d
theorem getP_none {n:Int}{s:PSt}:getP n s=none↔∀y∈s,y.1≠n:=by
  unfold getP
  rw[Option.map_eq_none_iff,List.find?_eq_none]
  simp
theorem nodup_fst {s:PSt}(h:(s.map (·.1)).Nodup){n:Int}{p q:Pay}(hp:(n,p)∈s)(hq:(n,q)∈s):p=q:=by
  induction s with
  |nil=>cases hp
  |cons y s ih=>
    simp only[List.map_cons,List.nodup_cons]at h
    rcases List.mem_cons.1 hp with b|b<;>rcases List.mem_cons.1 hq with c|c
    · have:=b.trans c.symm;simpa using this
    · exact absurd (List.mem_map.2 ⟨(n,q),c,by rw[<-b]⟩) h.1
    · exact absurd (List.mem_map.2 ⟨(n,p),b,by rw[<-c]⟩) h.1
    · exact ih h.2 b c
theorem getP_of {s:PSt}(h:(s.map (·.1)).Nodup){n:Int}{p:Pay}(hp:(n,p)∈s):getP n s=some p:=by
  cases e:getP n s with
  |none=>exact absurd rfl (getP_none.1 e _ hp)
  |some q=>rw[nodup_fst h (getP_mem e) hp]
def updP (n:Int)(p:Pay)(s:PSt):PSt:=s.map fun y=>if y.1=n then(n,p)else y
theorem updP_fst (n:Int)(p:Pay)(y:Int×Pay):(if y.1=n then(n,p)else y).1=y.1:=by
  by_cases h:y.1=n
  · rw[if_pos h];exact h.symm
  · rw[if_neg h]
theorem updP_names (n:Int)(p:Pay)(s:PSt):(updP n p s).map (·.1)=s.map (·.1):=by
  unfold updP
  rw[List.map_map]
  apply List.map_congr_left
  intro y _
  exact updP_fst n p y
theorem getP_upd {n m:Int}{p q:Pay}{s:PSt}(h:getP n s=some q):getP m (updP n p s)=if m=n then some p else getP m s:=by
  unfold getP updP
  induction s with
  |nil=>cases h
  |cons y s ih=>
    unfold getP at h
    simp only[List.map_cons,List.find?_cons]at h ⊢
    by_cases hy:y.1=n
    · simp only[hy,if_true]
      by_cases hm:m=n
      · simp[hm]
      · have b:¬(n=m):=fun e=>hm e.symm
        simp only[b,decide_false,hm,if_false]
        have:∀(l:PSt),(l.map fun y=>if y.1=n then(n,p)else y).find? (fun y=>decide (y.1=m))=l.find? (fun y=>decide (y.1=m)):=by
          intro l
          induction l with
          |nil=>rfl
          |cons z l il=>
            simp only[List.map_cons,List.find?_cons,il]
            by_cases hz:z.1=n
            · have c:¬(z.1=m):=fun e=>b (hz.symm.trans e)
              simp[hz,b]
            · simp[hz]
        rw[this]
    · simp only[hy,if_false,decide_false]at h ⊢
      have:=ih (by unfold getP;exact h)
      by_cases hm:y.1=m
      · have:¬m=n:=fun e=>hy (hm.trans e)
        simp[hm,this]
      · simp only[hm,decide_false]
        exact this
def hkS (s:PSt)(k:Int×Int):Bool:=s.any fun y=>y.2.held.any fun x=>decide (keyP x=k)
def dueP (ht:Int)(p:Pay):Bool:= !p.ovr&&decide (p.by_<=ht)
def lateP (ht:Int)(p:Pay):Pay:=if dueP ht p then{p with held:=[],ovr:=true}else p
def wantOk (nm:Int)(sc:Nat)(to by_ le:Int):Prop:=0<=nm/\sc≠0/\sc<q/\1<=to/\to<=1125899906842624/\0<=by_/\by_<=1048576/\0<=le/\le<=1048576
instance wantOk_dec (nm : Int) (sc : Nat) (to by_ le : Int) : Decidable (wantOk nm sc to by_ le) := by unfold wantOk; infer_instance
def newP (sc:Nat)(to by_ le:Int):Pay:=⟨sc,to,by_,le,[],0,false,false⟩
def wantS (s:PSt)(nm:Int)(sc:Nat)(to by_ le:Int):PSt×Int:=
  if wantOk nm sc to by_ le then if(getP nm s).isSome then(s,4)else(insP (nm,newP sc to by_ le) s,0)else(s,1)
def addT (s:PSt)(nm:Int)(x:Part)(ht:Int):PSt×List Paid×Int:=
  match getP nm s with
  |none=>(s,[],5)
  |some p=>
    if(mayP p (hkS s) x ht).2≠0 then(s,[],(mayP p (hkS s) x ht).2)
    else if(mayP p (hkS s) x ht).1<p.tot then(updP nm {p with held:=p.held++[x],sum:=(mayP p (hkS s) x ht).1} s,[],0)
    else(updP nm {p with held:=[],sum:=(mayP p (hkS s) x ht).1,ovr:=true,paid:=true} s,(p.held++[x]).map (paidOf p.sec),0)
def lateS (s:PSt)(ht:Int):PSt×List Part:=(s.map fun y=>(y.1,lateP ht y.2),s.flatMap fun y=>if dueP ht y.2 then y.2.held else[])
def heldP (s:PSt)(nm:Int):List Part:=((getP nm s).map (·.held)).getD []
def overP (s:PSt)(nm:Int):Bool×Bool:=((getP nm s).map fun p=>(p.ovr,p.paid)).getD (false,false)
def sumP (l:List Part):Int:=(l.map (·.am)).sum
structure PayOk (p:Pay):Prop where
  few:p.held.length<=8
  sum:p.ovr=false->p.sum=sumP p.held
  low:∀x∈p.held,1<=x.am
  top:p.ovr=false->sumP p.held<=1125899906842624
  gone:p.ovr=true->p.held=[]
structure GoodP (s:PSt):Prop where
  names:(s.map (·.1)).Nodup
  srt:Srt s
  nat:∀y∈s,0<=y.1/\y.1<=9223372036854775807
  pay:∀y∈s,PayOk y.2
  keys:(s.flatMap fun y=>y.2.held.map keyP).Nodup
def keysS (s:PSt):List (Int×Int):=s.flatMap fun y=>y.2.held.map keyP
theorem hkS_iff (s:PSt)(k:Int×Int):hkS s k=true↔k∈keysS s:=by
  unfold hkS keysS
  rw[List.any_eq_true,List.mem_flatMap]
  constructor
  · rintro⟨y,hy,h⟩
    rw[List.any_eq_true]at h
    obtain⟨x,hx,e⟩:=h
    exact⟨y,hy,List.mem_map.2 ⟨x,hx,by simpa using e⟩⟩
  · rintro⟨y,hy,h⟩
    obtain⟨x,hx,e⟩:=List.mem_map.1 h
    exact⟨y,hy,List.any_eq_true.2 ⟨x,hx,by simpa using e⟩⟩
theorem keysS_app (a b:PSt):keysS (a++b)=keysS a++keysS b:=by simp[keysS,List.flatMap_append]
theorem keysS_cons (y:Int×Pay)(b:PSt):keysS (y::b)=y.2.held.map keyP++keysS b:=by simp[keysS,List.flatMap_cons]
theorem getP_split {n:Int}{p:Pay}:∀{s:PSt},(s.map (·.1)).Nodup->getP n s=some p->∃a b,s=a++(n,p)::b/\∀p',updP n p' s=a++(n,p')::b
  |[],_,h=>by cases h
  |y::s,hn,h=>by
    simp only[List.map_cons,List.nodup_cons]at hn
    by_cases hy:y.1=n
    · have hp:(n,p)∈y::s:=getP_mem h
      rcases List.mem_cons.1 hp with c|c
      · subst c
        refine⟨[],s,rfl,fun p'=>?_⟩
        unfold updP
        simp only[List.map_cons,if_true,List.nil_append]
        congr 1
        have:∀l:PSt,n∉l.map (·.1)->(l.map fun y=>if y.1=n then(n,p')else y)=l:=by
          intro l hl
          have:=List.map_congr_left (f:=fun y:Int×Pay=>if y.1=n then(n,p')else y) (g:=id) (l:=l) (fun y hy'=>if_neg (fun e=>hl (List.mem_map.2 ⟨y,hy',e⟩)))
          rw[this,List.map_id]
        exact this s hn.1
      · exact absurd (List.mem_map.2 ⟨_,c,hy.symm⟩) hn.1
    · have d:getP n s=some p:=by
        unfold getP at h ⊢
        rw[List.find?_cons]at h
        simpa[hy]using h
      obtain⟨a,b,i,j⟩:=getP_split hn.2 d
      refine⟨y::a,b,by rw[i];rfl,fun p'=>?_⟩
      have:=j p'
      unfold updP at this ⊢
      simp only[List.map_cons,if_neg hy,List.cons_append,this]
theorem hk_upd {n:Int}{p p':Pay}{s:PSt}(hn:(s.map (·.1)).Nodup)(h:getP n s=some p)(k:Int×Int):k∈keysS (updP n p' s)↔(k∈p'.held.map keyP\/(∃y∈s,y.1≠n/\k∈y.2.held.map keyP)):=by
  unfold updP keysS
  rw[List.mem_flatMap]
  constructor
  · rintro⟨y,hy,hk⟩
    obtain⟨z,hz,rfl⟩:=List.mem_map.1 hy
    by_cases e:z.1=n
    · rw[if_pos e]at hk;exact .inl hk
    · rw[if_neg e]at hk;exact .inr ⟨z,hz,e,hk⟩
  · rintro(hk|⟨y,hy,e,hk⟩)
    · exact⟨(n,p'),List.mem_map.2 ⟨(n,p),getP_mem h,by simp⟩,hk⟩
    · exact⟨y,List.mem_map.2 ⟨y,hy,by rw[if_neg e]⟩,hk⟩
theorem keys_part {n:Int}{p:Pay}{s:PSt}(hn:(s.map (·.1)).Nodup)(hk:(keysS s).Nodup)(h:getP n s=some p){y:Int×Pay}(hy:y∈s)(e:y.1≠n){k:Int×Int}(h1:k∈y.2.held.map keyP):k∉p.held.map keyP:=by
  obtain⟨a,b,c,_⟩:=getP_split hn h
  intro d
  rw[c,keysS_app,keysS_cons,List.nodup_append]at hk
  obtain⟨_,f,i⟩:=hk
  rw[List.nodup_append]at f
  rw[c]at hy
  rcases List.mem_append.1 hy with hy|hy
  · exact i k (by unfold keysS;exact List.mem_flatMap.2 ⟨y,hy,h1⟩) k (List.mem_append.2 (.inl d)) rfl
  · rcases List.mem_cons.1 hy with hy|hy
    · exact e (by rw[hy])
    · exact f.2.2 k d k (by unfold keysS;exact List.mem_flatMap.2 ⟨y,hy,h1⟩) rfl
end Go.Gsp

namespace Go.Gsp
open Go.Osp Go.Num
theorem mayP_ok {p:Pay}{hk:Int×Int->Bool}{x:Part}{ht:Int}(h:(mayP p hk x ht).2=0):
    p.ovr=false/\ht<p.by_/\1<=x.am/\x.am<=1125899906842624/\p.lst<=x.ex/\hk (keyP x)=false/\opensP p.sec x=true/\p.held.length<8/\(addC p.sum x.am).2=true/\(mayP p hk x ht).1=(addC p.sum x.am).1:=by
  unfold mayP at h ⊢
  split at h
  · simp at h
  split at h
  · simp at h
  split at h
  · simp at h
  split at h
  · simp at h
  split at h
  · simp at h
  split at h
  · simp at h
  split at h
  · simp at h
  split at h
  · simp at h
  rename_i h1 h2 h3 h4 h5 h6 h7 h8
  refine⟨by simpa using h1,by omega,by omega,by omega,by omega,by simpa using h5,by simpa using h6,by omega,by simpa using h8,?_⟩
  rw[if_neg h1,if_neg h2,if_neg h3,if_neg h4,if_neg h5,if_neg h6,if_neg h7,if_neg h8]
theorem sumP_snoc (l:List Part)(x:Part):sumP (l++[x])=sumP l+x.am:=by
  unfold sumP
  rw[List.map_append,List.sum_append]
  simp
theorem PayOk.new (sc:Nat)(to by_ le:Int):PayOk (newP sc to by_ le):=⟨by simp[newP],fun _=>rfl,by simp[newP],by simp[newP,sumP],by simp[newP]⟩
theorem PayOk.add {p:Pay}(h:PayOk p){hk:Int×Int->Bool}{x:Part}{ht:Int}(hm:(mayP p hk x ht).2=0):PayOk {p with held:=p.held++[x],sum:=(mayP p hk x ht).1}:=by
  obtain⟨b,j,c,k,l,m,n,o,d,e⟩:=mayP_ok hm
  obtain⟨f,s,i⟩:=addC_val d
  have hs:=h.sum b
  refine⟨by simp;omega,fun _=>?_,?_,fun _=>?_,fun ho=>?_⟩
  · show(mayP p hk x ht).1=sumP (p.held++[x])
    rw[sumP_snoc,e,f,hs]
  · intro y hy
    rcases List.mem_append.1 hy with hy|hy
    · exact h.low y hy
    · simp at hy;subst hy;exact c
  · show sumP (p.held++[x])<=_
    rw[sumP_snoc,<-hs];exact i
  · rw[show({p with held:=p.held++[x],sum:=(mayP p hk x ht).1}:Pay).ovr=p.ovr from rfl,b]at ho;cases ho
theorem PayOk.clear (p:Pay)(m:Int)(b:Bool):PayOk {p with held:=[],sum:=m,ovr:=true,paid:=b}:=⟨by simp,fun h=>(by cases h),(by simp),fun h=>(by cases h),fun _=>rfl⟩
theorem PayOk.late {p:Pay}(h:PayOk p)(ht:Int):PayOk (lateP ht p):=by
  unfold lateP
  split
  · exact⟨by simp,fun h=>(by cases h),(by simp),fun h=>(by cases h),fun _=>rfl⟩
  · exact h
theorem srt_of_names {s t:PSt}(h:Srt s)(e:t.map (·.1)=s.map (·.1)):Srt t:=by
  have b:(s.map (·.1)).Pairwise (· <= ·):=List.pairwise_map.2 h
  rw[<-e]at b
  exact List.pairwise_map.1 b
theorem nat_of_names {s t:PSt}(h:∀y∈s,0<=y.1/\y.1<=9223372036854775807)(e:t.map (·.1)=s.map (·.1)):∀y∈t,0<=y.1/\y.1<=9223372036854775807:=by
  intro y hy
  have:y.1∈s.map (·.1):=by rw[<-e];exact List.mem_map.2 ⟨y,hy,rfl⟩
  obtain⟨z,hz,b⟩:=List.mem_map.1 this
  rw[<-b]
  exact h z hz
theorem GoodP.nil:GoodP []:=⟨List.nodup_nil,List.Pairwise.nil,by simp,by simp,List.nodup_nil⟩
theorem GoodP.upd {s:PSt}(h:GoodP s){n:Int}{p p':Pay}(hg:getP n s=some p)(ho:PayOk p')(hk:∀a b:List (Int×Int),(a++(p.held.map keyP++b)).Nodup->(∀k∈a++(p.held.map keyP++b),k∈keysS s)->(a++(p'.held.map keyP++b)).Nodup):GoodP (updP n p' s):=by
  refine⟨by rw[updP_names];exact h.names,srt_of_names h.srt (updP_names n p' s),nat_of_names h.nat (updP_names n p' s),?_,?_⟩
  · intro y hy
    obtain⟨z,hz,rfl⟩:=List.mem_map.1 hy
    split
    · exact ho
    · exact h.pay z hz
  · obtain⟨a,b,d,e⟩:=getP_split h.names hg
    rw[e p']
    show(keysS (a++(n,p')::b)).Nodup
    have f:(keysS s).Nodup:=h.keys
    have c:keysS s=keysS a++(p.held.map keyP++keysS b):=by rw[d,keysS_app,keysS_cons]
    rw[keysS_app,keysS_cons]
    exact hk (keysS a) (keysS b) (by rw[<-c];exact f) (by rw[<-c];exact fun k hk=>hk)
theorem GoodP.add {s:PSt}(h:GoodP s)(nm:Int)(x:Part)(ht:Int):GoodP (addT s nm x ht).1:=by
  unfold addT
  cases hg:getP nm s with
  |none=>exact h
  |some p=>
    have hp:=h.pay _ (getP_mem hg)
    simp only
    split
    · exact h
    · rename_i hm
      have hm:=Classical.not_not.1 hm
      split
      · refine h.upd hg (hp.add hm) fun a b hnd hin=>?_
        have hx:keyP x∉keysS s:=fun hc=>by have:=(mayP_ok hm).2.2.2.2.2.1;rw[(hkS_iff s _).2 hc]at this;cases this
        have c:keyP x∉a++(p.held.map keyP++b):=fun hc=>hx (hin _ hc)
        show(a++((p.held++[x]).map keyP++b)).Nodup
        rw[List.map_append,List.append_assoc,<-List.append_assoc a]
        have:(a++p.held.map keyP++([x].map keyP++b)).Perm (keyP x::(a++(p.held.map keyP++b))):=by
          rw[<-List.append_assoc a]
          exact List.perm_middle
        rw[this.nodup_iff,List.nodup_cons]
        exact⟨c,hnd⟩
      · refine h.upd hg (PayOk.clear p _ _) fun a b hnd hin=>?_
        show(a++([]++b)).Nodup
        rw[List.nil_append]
        exact hnd.sublist ((List.sublist_append_right _ _).append_left a)
theorem GoodP.want {s:PSt}(h:GoodP s)(nm:Int)(sc:Nat)(to by_ le:Int)(hn:nm<=9223372036854775807):GoodP (wantS s nm sc to by_ le).1:=by
  unfold wantS
  split
  · rename_i hw
    split
    · exact h
    · rename_i hg
      have hg:getP nm s=none:=by simpa using hg
      have hp:=insP_perm (nm,newP sc to by_ le) s
      refine⟨?_,insP_srt _ _ h.srt,?_,?_,?_⟩
      · rw[(hp.map (·.1)).nodup_iff]
        simp only[List.map_cons,List.nodup_cons]
        refine⟨fun hc=>?_,h.names⟩
        obtain⟨y,hy,e⟩:=List.mem_map.1 hc
        exact getP_none.1 hg y hy e
      · intro y hy
        rcases List.mem_cons.1 (hp.mem_iff.1 hy)with rfl|hy
        · exact⟨hw.1,hn⟩
        · exact h.nat y hy
      · intro y hy
        rcases List.mem_cons.1 (hp.mem_iff.1 hy)with rfl|hy
        · exact PayOk.new sc to by_ le
        · exact h.pay y hy
      · have:=(hp.flatMap_right (fun y=>y.2.held.map keyP))
        rw[this.nodup_iff]
        simpa[List.flatMap_cons,newP]using h.keys
  · exact h
theorem late_names (s:PSt)(ht:Int):(lateS s ht).1.map (·.1)=s.map (·.1):=by simp[lateS,List.map_map,Function.comp_def]
theorem GoodP.late {s:PSt}(h:GoodP s)(ht:Int):GoodP (lateS s ht).1:=by
  refine⟨by rw[late_names];exact h.names,srt_of_names h.srt (late_names s ht),nat_of_names h.nat (late_names s ht),?_,?_⟩
  · intro y hy
    obtain⟨z,hz,rfl⟩:=List.mem_map.1 hy
    exact(h.pay z hz).late ht
  · have b:(keysS s).Nodup:=h.keys
    refine b.sublist ?_
    unfold keysS lateS
    simp only
    rw[List.flatMap_map]
    have:∀l:PSt,(l.flatMap fun y=>((lateP ht y.2).held.map keyP)).Sublist (l.flatMap fun y=>y.2.held.map keyP):=by
      intro l
      induction l with
      |nil=>exact List.Sublist.refl _
      |cons y l ih=>
        simp only[List.flatMap_cons]
        refine List.Sublist.append ?_ ih
        unfold lateP
        split
        · exact List.nil_sublist _
        · exact List.Sublist.refl _
    exact this s
end Go.Gsp

namespace Go.Gsp
open Go.Osp Go.Num
def nextP (p:Pay)(x:Part)(ht:Int):Pay:=
  if(mayP p (hkS [(5,p)]) x ht).2≠0 then p
  else if(mayP p (hkS [(5,p)]) x ht).1<p.tot then{p with held:=p.held++[x],sum:=(mayP p (hkS [(5,p)]) x ht).1}
  else{p with held:=[],sum:=(mayP p (hkS [(5,p)]) x ht).1,ovr:=true,paid:=true}
def outP (p:Pay)(x:Part)(ht:Int):List Paid:=
  if(mayP p (hkS [(5,p)]) x ht).2≠0 then[]else if(mayP p (hkS [(5,p)]) x ht).1<p.tot then[]else(p.held++[x]).map (paidOf p.sec)
def errP (p:Pay)(x:Part)(ht:Int):Int:=(mayP p (hkS [(5,p)]) x ht).2
structure WH (l:List Part)(sec:Nat)(tot by_ le:Int)(i:Nat)(p:Pay)(T:Nat)(sm:Int)(d:Bool):Prop where
  sec_:p.sec=sec
  tot_:p.tot=tot
  by_:p.by_=by_
  le_:p.lst=le
  ovr:p.ovr=d
  paid:p.paid=d
  opn:d=false->p.held.length=T/\p.sum=sm/\sm<tot
  cls:d=true->p.held=[]
  mem:∀x∈p.held,x∈l/\opensP sec x=true
  few:T<=i
  low:0<=sm/\sm<=1125899906842624
variable {l:List Part}{sec:Nat}{tot by_ le:Int}{i T:Nat}{p:Pay}{sm:Int}{d:Bool}{x:Part}{ht:Int}
theorem WH.zero (h:wantOk 5 sec tot by_ le):WH l sec tot by_ le 0 (newP sec tot by_ le) 0 0 false:=
  ⟨rfl,rfl,rfl,rfl,rfl,rfl,fun _=>⟨rfl,rfl,by have:=h.2.2.2.1;omega⟩,(fun h=>by cases h),(by simp[newP]),Nat.le_refl _,by omega,by omega⟩
theorem WH.late (h:WH l sec tot by_ le i p T sm d):
    (if dueP by_ p then p.held else[]).length=(if d then 0 else T)/\(if dueP by_ (lateP by_ p)then(lateP by_ p).held else[])=[]/\(lateP by_ (lateP by_ p)).ovr=true/\(lateP by_ (lateP by_ p)).paid=d/\(lateP by_ (lateP by_ p)).held=[]:=by
  have hb:=h.by_
  have hd:dueP by_ p= !d:=by unfold dueP;rw[h.ovr,hb];simp
  have b:(lateP by_ p).ovr=true/\(lateP by_ p).paid=d/\(lateP by_ p).held=[]:=by
    unfold lateP
    rw[hd]
    cases d
    · exact⟨rfl,h.paid,rfl⟩
    · exact⟨h.ovr,h.paid,h.cls rfl⟩
  have e:dueP by_ (lateP by_ p)=false:=by unfold dueP;rw[b.1];rfl
  have c:lateP by_ (lateP by_ p)=lateP by_ p:=by unfold lateP at*;rw[if_neg (by rw[e];simp)]
  refine⟨?_,by rw[e];rfl,by rw[c];exact b.1,by rw[c];exact b.2.1,by rw[c];exact b.2.2⟩
  rw[hd]
  cases d
  · exact(h.opn rfl).1
  · rfl
end Go.Gsp

namespace Go.Gsp
open Go.Osp Go.Num
theorem getP_cons (n:Int)(y:Int×Pay)(s:PSt):getP n (y::s)=if y.1=n then some y.2 else getP n s:=by
  unfold getP
  rw[List.find?_cons]
  by_cases h:y.1=n
  · simp[h]
  · simp[h]
theorem getP_late (n ht:Int):∀s:PSt,getP n (lateS s ht).1=(getP n s).map (lateP ht)
  |[]=>rfl
  |y::s=>by
    have ih:=getP_late n ht s
    show getP n ((y.1,lateP ht y.2)::(lateS s ht).1)=_
    rw[getP_cons,getP_cons,ih]
    split<;>rfl
theorem mem_upd {n:Int}{p:Pay}{s:PSt}{y:Int×Pay}(h:y∈updP n p s):y=(n,p)\/y∈s:=by
  obtain⟨z,hz,rfl⟩:=List.mem_map.1 h
  by_cases hh:z.1=n
  · rw[if_pos hh];exact .inl rfl
  · rw[if_neg hh];exact .inr hz
structure AP (s t:PSt):Prop where
  gs:GoodP s
  gt:GoodP t
  get:getP 1 s=getP 1 t
  s1:∀y∈s,y.1=1\/(y.1=2/\∀x∈y.2.held,x.ch=2)
  t1:∀y∈t,y.1=1
theorem AP.nil:AP [] []:=⟨GoodP.nil,GoodP.nil,rfl,by simp,by simp⟩
variable {s t:PSt}
theorem AP.over (h:AP s t):overP s 1=overP t 1:=by unfold overP;rw[h.get]
theorem AP.held (h:AP s t):heldP s 1=heldP t 1:=by unfold heldP;rw[h.get]
theorem AP.hk (h:AP s t){x:Part}(hx:x.ch=1):hkS s (keyP x)=hkS t (keyP x):=by
  rw[Bool.eq_iff_iff,hkS_iff,hkS_iff]
  unfold keysS
  rw[List.mem_flatMap,List.mem_flatMap]
  constructor
  · rintro⟨y,hy,hk⟩
    rcases h.s1 y hy with e|⟨e,hc⟩
    · have b:getP 1 s=some y.2:=getP_of h.gs.names (by rw[<-e];exact hy)
      rw[h.get]at b
      exact⟨_,getP_mem b,hk⟩
    · obtain⟨z,hz,ez⟩:=List.mem_map.1 hk
      have:=hc z hz
      have c:z.ch=x.ch:=congrArg Prod.fst ez
      omega
  · rintro⟨y,hy,hk⟩
    have e:=h.t1 y hy
    have b:getP 1 t=some y.2:=getP_of h.gt.names (by rw[<-e];exact hy)
    rw[<-h.get]at b
    exact⟨_,getP_mem b,hk⟩
theorem AP.addN (h:AP s t){nm:Int}(hn:nm=2){x:Part}(hx:x.ch=2)(ht:Int):AP (addT s nm x ht).1 t:=by
  subst hn
  refine⟨h.gs.add _ _ _,h.gt,?_,?_,h.t1⟩
  · unfold addT
    split
    · exact h.get
    · rename_i p hg
      split
      · exact h.get
      · split
        · rw[getP_upd hg];exact h.get
        · rw[getP_upd hg];exact h.get
  · intro y hy
    unfold addT at hy
    split at hy
    · exact h.s1 y hy
    · rename_i p hg
      have hp:∀z∈p.held,z.ch=2:=by
        rcases h.s1 _ (getP_mem hg)with e|⟨_,e⟩
        · simp at e
        · exact e
      split at hy
      · exact h.s1 y hy
      · split at hy
        · rcases mem_upd hy with rfl|hy
          · refine .inr ⟨rfl,fun z hz=>?_⟩
            rcases List.mem_append.1 hz with hz|hz
            · exact hp z hz
            · simp at hz;subst hz;exact hx
          · exact h.s1 y hy
        · rcases mem_upd hy with rfl|hy
          · exact .inr ⟨rfl,by simp⟩
          · exact h.s1 y hy
theorem AP.late (h:AP s t)(ht:Int):AP (lateS s ht).1 (lateS t ht).1:=by
  refine⟨h.gs.late ht,h.gt.late ht,?_,?_,?_⟩
  · rw[getP_late,getP_late,h.get]
  · intro y hy
    obtain⟨z,hz,rfl⟩:=List.mem_map.1 hy
    rcases h.s1 z hz with e|⟨e,hc⟩
    · exact .inl e
    · refine .inr ⟨e,fun x hx=>?_⟩
      unfold lateP at hx
      split at hx
      · simp at hx
      · exact hc x hx
  · intro y hy
    obtain⟨z,hz,rfl⟩:=List.mem_map.1 hy
    exact h.t1 z hz
end Go.Gsp

namespace Go.Gsp
open Go.Osp Go.Num Go.Hsp
def prtG (own:Nat)(am:List Int)(ts:List Nat)(ex:Int)(i:Nat):Part:=⟨i,1,am.getD i 0,ex,base (ts.getD i 0),addS (ts.getD i 0) (negS own)⟩
theorem add_back {own t:Nat}(ht:t<q):addS own (addS t (negS own))=t:=by
  have:t<2305843009213688669:=ht
  simp only[addS,negS,q]
  omega
theorem add_own {t:Nat}(b:Nat):addS t b<q:=Nat.mod_lt _ q_pos
def sumG (am:List Int)(n:Nat):Int:=(am.take n).sum
theorem sumG_zero (am:List Int):sumG am 0=0:=by simp[sumG]
theorem sumG_next {am:List Int}{n:Nat}(h:n<am.length):sumG am (n+1)=sumG am n+am.getD n 0:=by
  unfold sumG
  rw[List.take_add_one,List.sum_append]
  simp[h]
structure QH (own:Nat)(am:List Int)(ts:List Nat)(tot ex:Int)(n:Nat):Prop where
  one:1<=n
  eight:n<=8
  am_:am.length=n
  low:∀j,j<n->1<=am.getD j 0
  sum:am.sum=tot
  top:tot<=1125899906842624
  tsl:ts.length=n
  ts_:∀j,j<n->ts.getD j 0<q
  ex_:0<=ex/\ex<=1048576
  own_:own≠0/\own<q
variable {own n i:Nat}{am:List Int}{ts:List Nat}{tot ex:Int}{p:Pay}{out:List Paid}
theorem QH.all (h:QH own am ts tot ex n):sumG am n=tot:=by rw[<-h.sum,<-h.am_,sumG,List.take_length]
theorem QH.up (h:QH own am ts tot ex n):∀i,i<=n->(i:Int)<=sumG am i
  |0,_=>by rw[sumG_zero];omega
  |i+1,hi=>by
    have:=h.up i (by omega)
    have:=h.low i (by omega)
    have:=h.am_
    rw[sumG_next (by omega)]
    omega
theorem QH.lt (h:QH own am ts tot ex n):∀d i,i+d+1=n->sumG am i<tot
  |0,i,e=>by
    have:=h.low i (by omega)
    have:=h.am_
    rw[<-h.all,<-e,Nat.add_zero,sumG_next (by omega)]
    omega
  |d+1,i,e=>by
    have:=h.lt d (i+1) (by omega)
    have:=h.low i (by omega)
    have:=h.am_
    rw[sumG_next (by omega)]at*
    omega
theorem QH.le (h:QH own am ts tot ex n)(hi:i<=n):sumG am i<=tot:=by
  rcases Nat.lt_or_ge i n with hlt|hge
  · exact Int.le_of_lt (h.lt (n-i-1) i (by omega))
  · rw[show i=n by omega,h.all];exact Int.le_refl _
theorem addC_of {a b:Int}(h1:0<=a)(h2:0<=b)(h3:a+b<=1125899906842624):addC a b=(a+b,true):=by
  unfold addC
  rw[if_pos]
  simp[coinB,inB]
  omega
theorem mayP_of {p:Pay}{hk:Int×Int->Bool}{x:Part}{ht:Int}(h1:p.ovr=false)(h2:ht<p.by_)(h3:1<=x.am)(h4:x.am<=1125899906842624)(h5:p.lst<=x.ex)(h6:hk (keyP x)=false)(h7:opensP p.sec x=true)(h8:p.held.length<8)(h9:0<=p.sum)(h10:p.sum+x.am<=1125899906842624):mayP p hk x ht=(p.sum+x.am,0):=by
  unfold mayP
  rw[addC_of h9 (by omega) h10,if_neg (by simp[h1]),if_neg (by omega),if_neg (by omega),if_neg (by omega),if_neg (by simp[h6]),if_neg (by simp[h7]),if_neg (by omega),if_neg (by simp)]
structure PG (own:Nat)(am:List Int)(ts:List Nat)(tot ex:Int)(n i:Nat)(p:Pay)(out:List Paid):Prop where
  sec_:p.sec=own
  tot_:p.tot=tot
  by_:p.by_=10
  lst_:p.lst=ex
  opn:i<n->p.ovr=false/\p.paid=false/\p.held=(List.range i).map (prtG own am ts ex)/\p.sum=sumG am i/\out=[]
  cls:i=n->p.ovr=true/\p.paid=true/\out=(List.range n).map (fun(j:Nat)=>(⟨(j:Int),1,ts.getD j 0⟩:Paid))
theorem PG.zero (h:QH own am ts tot ex n):PG own am ts tot ex n 0 (newP own tot 10 ex) []:=⟨rfl,rfl,rfl,rfl,fun _=>⟨rfl,rfl,rfl,by rw[sumG_zero];rfl,rfl⟩,fun e=>by have:=h.one;omega⟩
theorem QH.want (h:QH own am ts tot ex n):wantOk 4 own tot 10 ex:=by
  have:=h.up n (Nat.le_refl _)
  have e:=h.all
  have:=h.one
  have:=h.top
  exact⟨by omega,h.own_.1,h.own_.2,by omega,by omega,by omega,by omega,h.ex_.1,h.ex_.2⟩
theorem PG.may (h:PG own am ts tot ex n i p out)(hp:QH own am ts tot ex n)(hi:i<n):mayP p (hkS [(5,p)]) (prtG own am ts ex i) 9=(sumG am (i+1),0):=by
  obtain⟨d,o,b,f,s⟩:=h.opn hi
  have k:=hp.low i hi
  have l:=hp.up i (by omega)
  have t:=hp.eight
  have u:=hp.am_
  have c:=hp.le (i:=i+1) (by omega)
  have v:=hp.top
  rw[sumG_next (by omega)]at c ⊢
  rw[<-f]at l c ⊢
  refine mayP_of d (by rw[h.by_];omega) k (by show am.getD i 0<=_;omega) (by rw[h.lst_];exact Int.le_refl _) ?_ ?_ (by rw[b];simp;omega) (by omega) (by show p.sum+am.getD i 0<=_;omega)
  · rw[Bool.eq_false_iff]
    intro hk
    rw[hkS_iff,keysS_cons]at hk
    simp only[keysS,List.flatMap_nil,List.append_nil]at hk
    rw[b,List.map_map]at hk
    obtain⟨j,hj,e⟩:=List.mem_map.1 hk
    have m:=congrArg Prod.fst e
    simp only[Function.comp,keyP,prtG]at m
    have:=List.mem_range.1 hj
    omega
  · unfold opensP
    rw[h.sec_]
    show(decide (addS (ts.getD i 0) (negS own)<q)&&decide (base (addS own (addS (ts.getD i 0) (negS own)))=base (ts.getD i 0)))=true
    rw[add_back (hp.ts_ i hi)]
    simp[add_own]
theorem pays_at (hp:QH own am ts tot ex n):∀j,j<n->paidOf own (prtG own am ts ex j)=(⟨(j:Int),1,ts.getD j 0⟩:Paid):=fun j hj=>by
  show(⟨(j:Int),1,addS own (addS (ts.getD j 0) (negS own))⟩:Paid)=_
  rw[add_back (hp.ts_ j hj)]
theorem PG.step (h:PG own am ts tot ex n i p out)(hp:QH own am ts tot ex n)(hi:i<n):
    errP p (prtG own am ts ex i) 9=0/\(decide ((0:Int)<(((outP p (prtG own am ts ex i) 9).length:Nat):Int))=decide (((i:Nat):Int)=((n:Nat):Int)-1))/\PG own am ts tot ex n (i+1) (nextP p (prtG own am ts ex i) 9) (outP p (prtG own am ts ex i) 9):=by
  obtain⟨c,d,b,e,f⟩:=h.opn hi
  have hm:=h.may hp hi
  have k:=hp.am_
  have ht:=hp.all
  refine⟨by unfold errP;rw[hm],?_,?_⟩
  · by_cases hl:i+1=n
    · have eo:outP p (prtG own am ts ex i) 9=(p.held++[prtG own am ts ex i]).map (paidOf p.sec):=by unfold outP;rw[hm,if_neg (by simp),h.tot_,hl,ht,if_neg (by simp)]
      rw[eo]
      simp
      omega
    · have:=hp.lt (n-(i+1)-1) (i+1) (by omega)
      have eo:outP p (prtG own am ts ex i) 9=[]:=by unfold outP;rw[hm,if_neg (by simp),h.tot_,if_pos (by simpa using this)]
      rw[eo]
      simp
      omega
  · by_cases hl:i+1=n
    · have eo:outP p (prtG own am ts ex i) 9=(p.held++[prtG own am ts ex i]).map (paidOf p.sec):=by unfold outP;rw[hm,if_neg (by simp),h.tot_,hl,ht,if_neg (by simp)]
      have en:nextP p (prtG own am ts ex i) 9={p with held:=[],sum:=sumG am (i+1),ovr:=true,paid:=true}:=by unfold nextP;rw[hm,if_neg (by simp),h.tot_,hl,ht,if_neg (by simp)]
      rw[eo,en]
      refine⟨h.sec_,h.tot_,h.by_,h.lst_,fun hh=>by omega,fun _=>⟨rfl,rfl,?_⟩⟩
      rw[b,h.sec_,<-hl,List.range_succ,List.map_append,List.map_append,List.map_map]
      congr 1
      · exact List.map_congr_left fun j hj=>pays_at hp j (by have:=List.mem_range.1 hj;omega)
      · show[paidOf own (prtG own am ts ex i)]=_
        rw[pays_at hp i hi]
        rfl
    · have:=hp.lt (n-(i+1)-1) (i+1) (by omega)
      have eo:outP p (prtG own am ts ex i) 9=[]:=by unfold outP;rw[hm,if_neg (by simp),h.tot_,if_pos (by simpa using this)]
      have en:nextP p (prtG own am ts ex i) 9={p with held:=p.held++[prtG own am ts ex i],sum:=sumG am (i+1)}:=by unfold nextP;rw[hm,if_neg (by simp),h.tot_,if_pos (by simpa using this)]
      rw[eo,en]
      refine⟨h.sec_,h.tot_,h.by_,h.lst_,fun hh=>⟨c,d,?_,rfl,rfl⟩,fun hh=>absurd hh hl⟩
      show p.held++[prtG own am ts ex i]=_
      rw[b,List.range_succ,List.map_append]
      rfl
theorem add_four (p:Pay)(x:Part)(ht:Int):addT [(4,p)] 4 x ht=([(4,nextP p x ht)],outP p x ht,errP p x ht):=by
  have hg:getP 4 [(4,p)]=some p:=by simp[getP]
  have hu:∀p',updP 4 p' [(4,p)]=[(4,p')]:=fun p'=>by simp[updP]
  have hk:hkS [(4,p)]=hkS [(5,p)]:=rfl
  unfold addT nextP outP errP
  rw[hg]
  simp only[hu,hk]
  by_cases b:(mayP p (hkS [(5,p)]) x ht).2=0
  · by_cases c:(mayP p (hkS [(5,p)]) x ht).1<p.tot
    · simp[b,c]
    · simp[b,c]
  · simp[b]
theorem late_four {p:Pay}(ht:Int)(h:p.ovr=true):(lateS [(4,p)] ht).2=[]:=by simp[lateS,dueP,h]
theorem over_four (p:Pay):overP [(4,p)] 4=(p.ovr,p.paid):=by simp[overP,getP]
theorem want_four {sc:Nat}{to by_ le:Int}(h:wantOk 4 sc to by_ le):wantS [] 4 sc to by_ le=([(4,newP sc to by_ le)],0):=by unfold wantS;rw[if_pos h];rfl
def shL (ts:List Nat)(n i:Nat):List Nat:=if i=n then ts else[]
theorem PG.told (h:PG own am ts tot ex n i p out)(hi:i<=n)(hl:ts.length=n):out.map (·.sec)=shL ts n i:=by
  unfold shL
  by_cases e:i=n
  · rw[if_pos e,(h.cls e).2.2,List.map_map]
    exact List.ext_getElem (by simp[hl]) fun j c b=>by simp[List.getD,b]
  · rw[if_neg e,(h.opn (by omega)).2.2.2.2];rfl
theorem PG.at_ (h:PG own am ts tot ex n i p out)(hi:i<=n){k:Nat}(hk:k<out.length):(out.getD k noPaid).ch=(k:Int)/\(out.getD k noPaid).sec=ts.getD k 0/\k<n:=by
  by_cases e:i=n
  · rw[(h.cls e).2.2]at hk ⊢
    rw[List.length_map,List.length_range]at hk
    simp[List.getD,hk]
  · rw[(h.opn (by omega)).2.2.2.2]at hk
    exact absurd hk (Nat.not_lt_zero _)
end Go.Gsp

