/- SplitPeeled: for every input the law answers true and leaves its arguments as they were. -/

set_option linter.unusedVariables false
set_option linter.unusedSimpArgs false
namespace Go.Num
def Prime (p:Nat):Prop:=2<=p/\∀d,d∣p->d=1\/d=p
theorem Prime.coprime {p x:Nat}(h:Prime p)(hx:¬p∣x):Nat.Coprime p x:=by
  rcases h.2 (Nat.gcd p x) (Nat.gcd_dvd_left p x)with b|b
  · exact b
  · exact absurd (b▸Nat.gcd_dvd_right p x) hx
theorem Prime.dvd_mul {p x y:Nat}(h:Prime p)(hd:p∣x*y):p∣x\/p∣y:=by
  by_cases hx:p∣x
  · exact .inl hx
  · exact .inr ((h.coprime hx).dvd_of_dvd_mul_left hd)
def pm (m:Nat):Nat->Nat->Nat->Nat->Nat
  |0,_,_,out=>out
  |f+1,a,n,out=>pm m f (a*a%m) (n/2) (if n%2=1 then out*a%m else out)
theorem pm_eq (m:Nat):∀(f a n out:Nat),n<2^f->out<m->pm m f a n out=out*a^n%m
  |0,a,n,out,h,ho=>by
    have:n=0:=by simpa using h
    subst this
    simp[pm,Nat.mod_eq_of_lt ho]
  |f+1,a,n,out,h,ho=>by
    have hm:0<m:=by omega
    have hn:n/2<2^f:=by rw[Nat.pow_succ]at h;omega
    rw[pm]
    by_cases hp:n%2=1
    · rw[if_pos hp,pm_eq m f _ _ _ hn (Nat.mod_lt _ hm)]
      have e:a^n=a*(a*a)^(n/2):=by
        have b:n=2*(n/2)+1:=by omega
        conv=>lhs;rw[b]
        rw[Nat.pow_succ,Nat.pow_mul,Nat.pow_two,Nat.mul_comm]
      rw[e,Nat.mul_mod,Nat.mod_mod,<-Nat.pow_mod,<-Nat.mul_mod,Nat.mul_assoc]
    · rw[if_neg hp,pm_eq m f _ _ _ hn ho]
      have e:a^n=(a*a)^(n/2):=by
        have b:n=2*(n/2):=by omega
        conv=>lhs;rw[b]
        rw[Nat.pow_mul,Nat.pow_two]
      rw[e,Nat.mul_mod,<-Nat.pow_mod,<-Nat.mul_mod]
theorem pigeon:∀(n:Nat) (f:Nat->Nat),(∀i,i<n->f i<n)->(∀i j,i<n->j<n->f i=f j->i=j)->∀y,y<n->∃i,i<n/\f i=y
  |0,_,_,_,y,hy=>by omega
  |n+1,f,hf,hi,y,hy=>by
    by_cases hyn:f n=y
    · exact⟨n,by omega,hyn⟩
    · --where n is taken,put f n in its place
      have hf':∀i,i<n->(if f i=n then f n else f i)<n:=by
        intro i h
        split
        · rename_i he
          have c:=hf n (by omega)
          have b:f n≠n:=fun e=>by have:=hi i n (by omega) (by omega) (by omega);omega
          omega
        · have:=hf i (by omega);omega
      have hi':∀i j,i<n->j<n->(if f i=n then f n else f i)=(if f j=n then f n else f j)->i=j:=by
        intro i j c b he
        split at he<;>split at he
        · exact hi i j (by omega) (by omega) (by omega)
        · have:=hi n j (by omega) (by omega) he;omega
        · have:=hi i n (by omega) (by omega) he;omega
        · exact hi i j (by omega) (by omega) he
      have ih:=pigeon n (fun i=>if f i=n then f n else f i) hf' hi'
      by_cases d:y<n
      · obtain⟨i,c,b⟩:=ih y d
        by_cases hh:f i=n
        · rw[if_pos hh]at b;exact absurd b hyn
        · rw[if_neg hh]at b;exact⟨i,by omega,b⟩
      · have hyn':y=n:=by omega
        subst hyn'
        obtain⟨i,c,b⟩:=ih (f y) (by have:=hf y (by omega);omega)
        by_cases hh:f i=y
        · exact⟨i,by omega,hh⟩
        · rw[if_neg hh]at b
          have:=hi i y (by omega) (by omega) b
          omega
theorem least {p:Nat->Prop}[DecidablePred p](n:Nat)(h:p n):∃k,k<=n/\p k/\∀j,j<k->¬p j:=by
  induction n using Nat.strongRecOn with
  |ind n ih=>
    by_cases hs:∃j,j<n/\p j
    · obtain⟨j,hj,hp⟩:=hs
      obtain⟨k,d,b,c⟩:=ih j hj hp
      exact⟨k,by omega,b,c⟩
    · exact⟨n,Nat.le_refl _,h,fun j hj hp=>hs ⟨j,hj,hp⟩⟩
theorem pow_order {a m d k:Nat}(hm:1<m)(h:a^d%m=1)(hk:a^k%m=1)(hl:∀j,j<d->0<j->¬a^j%m=1)(hd:0<d):d∣k:=by
  rw[Nat.dvd_iff_mod_eq_zero]
  have e:a^k%m=a^(k%d)%m:=by
    have b:k=d*(k/d)+k%d:=(Nat.div_add_mod k d).symm
    conv=>lhs;rw[b]
    rw[Nat.pow_add,Nat.pow_mul,Nat.mul_mod,Nat.pow_mod (a^d),h,Nat.one_pow,Nat.mod_eq_of_lt hm,Nat.one_mul,Nat.mod_mod]
  by_cases hz:k%d=0
  · exact hz
  · exact absurd (e▸hk) (hl _ (Nat.mod_lt _ hd) (by omega))
theorem dvd_prod:∀(fs:List Nat) (m:Nat),(∀r∈fs,Prime r)->1<m->m∣fs.foldr (· * ·) 1->∃r∈fs,r∣m
  |[],m,_,hm,hd=>by
    have:m=1:=Nat.dvd_one.1 hd
    omega
  |r::fs,m,hp,hm,hd=>by
    by_cases hr:r∣m
    · exact⟨r,by simp,hr⟩
    · have hc:Nat.Coprime m r:=((hp r (by simp)).coprime hr).symm
      obtain⟨q,b,c⟩:=dvd_prod fs m (fun q hq=>hp q (by simp[hq])) hm (hc.dvd_of_dvd_mul_left hd)
      exact⟨q,by simp[b],c⟩
theorem lucas (n a:Nat)(fs:List Nat)(hn:2<n)(hf:fs.foldr (· * ·) 1=n-1)(hp:∀r∈fs,Prime r)(h1:a^(n-1)%n=1)(h2:∀r∈fs,¬a^((n-1)/r)%n=1):Prime n:=by
  obtain⟨d,hd,⟨f,c⟩,hl⟩:=least (p:=fun k=>0<k/\a^k%n=1) (n-1) ⟨by omega,h1⟩
  have hl':∀j,j<d->0<j->¬a^j%n=1:=fun j hj l h=>hl j hj ⟨l,h⟩
  have hdn:d∣n-1:=pow_order (by omega) c h1 hl' f
  have hde:d=n-1:=by
    obtain⟨m,hm⟩:=hdn
    by_cases o:m=1
    · rw[hm,o,Nat.mul_one]
    · have y:m≠0:=fun h=>by rw[h]at hm;simp at hm;omega
      obtain⟨r,hr,t,ht⟩:=dvd_prod fs m hp (by omega) (by rw[hf,hm];exact Nat.dvd_mul_left m d)
      have s:0<r:=by have:=(hp r hr).1;omega
      have e:(n-1)/r=d*t:=by
        rw[hm,ht,Nat.mul_left_comm,Nat.mul_comm r,Nat.mul_div_cancel _ s]
      exact absurd (by rw[e,Nat.pow_mul,Nat.pow_mod,c,Nat.one_pow,Nat.mod_eq_of_lt (by omega)]) (h2 r hr)
  subst hde
  --every number below n is a power
  have unit:∀i,i<=n-1->(a^i%n)*(a^(n-1-i))%n=1:=by
    intro i hi
    rw[Nat.mul_mod,Nat.mod_mod,<-Nat.mul_mod,<-Nat.pow_add,show i+(n-1-i)=n-1 by omega,h1]
  have pos:∀i,i<=n-1->0<a^i%n:=by
    intro i hi
    rcases Nat.eq_zero_or_pos (a^i%n)with h|h
    · have:=unit i hi;rw[h]at this;simp at this
    · exact h
  have inj:∀i j,i<n-1->j<n-1->i<=j->a^i%n=a^j%n->i=j:=by
    intro i j hi hj hij he
    have b:a^(j-i)%n=1:=by
      have hu:=unit i (by omega)
      rw[he]at hu
      rw[Nat.mul_mod,Nat.mod_mod,<-Nat.mul_mod,<-Nat.pow_add,show j+(n-1-i)=(n-1)+(j-i) by omega,Nat.pow_add,Nat.mul_mod,h1,Nat.one_mul,Nat.mod_mod]at hu
      exact hu
    by_cases hz:j-i=0
    · omega
    · exact absurd b (hl' _ (by omega) (by omega))
  have all:=pigeon (n-1) (fun i=>a^i%n-1) (fun i hi=>by have:=pos i (by omega);have:=Nat.mod_lt (a^i) (show 0<n by omega);omega)
    (fun i j hi hj he=>by
      have b:=pos i (by omega)
      have z:=pos j (by omega)
      rcases Nat.le_total i j with h|h
      · exact inj i j hi hj h (by omega)
      · exact(inj j i hj hi h (by omega)).symm)
  refine⟨by omega,fun e he=>?_⟩
  by_cases u:e=n
  · exact .inr u
  · have hele:e<=n:=Nat.le_of_dvd (by omega) he
    have A:0<e:=Nat.pos_of_dvd_of_pos he (by omega)
    obtain⟨i,hi,hie⟩:=all (e-1) (by omega)
    have b:=pos i (by omega)
    have hu:=unit i (by omega)
    rw[show a^i%n=e by omega]at hu
    left
    have v:e∣1:=by
      have x:e∣e*a^(n-1-i)%n:=(Nat.dvd_mod_iff he).2 (Nat.dvd_mul_right _ _)
      rwa [hu]at x
    exact Nat.dvd_one.1 v
theorem lucas_pm (n a f:Nat)(fs:List Nat)(hn:2<n)(hff:n<2^f)(hf:fs.foldr (· * ·) 1=n-1)(hp:∀r∈fs,Prime r)(h1:pm n f a (n-1) 1=1)(h2:∀r∈fs,¬pm n f a ((n-1)/r) 1=1):Prime n:=by
  refine lucas n a fs hn hf hp ?_ ?_
  · rw[pm_eq n f a _ 1 (by omega) (by omega),Nat.one_mul]at h1
    exact h1
  · intro r hr
    have:=h2 r hr
    rw[pm_eq n f a _ 1 (Nat.lt_of_le_of_lt (Nat.div_le_self _ _) (by omega)) (by omega),Nat.one_mul]at this
    exact this
end Go.Num

namespace Go.Num
theorem small_prime (p:Nat)(h2:2<=p)(h:(List.range p).all (fun d=>decide (d<2)||decide (p%d≠0))=true):Prime p:=by
  refine⟨h2,fun d hd=>?_⟩
  have hle:=Nat.le_of_dvd (by omega) hd
  by_cases b:d=p
  · exact .inr b
  · rw[List.all_eq_true]at h
    have:=h d (List.mem_range.2 (by omega))
    rw[Nat.dvd_iff_mod_eq_zero]at hd
    have c:d≠0:=fun h=>by subst h;simp at hd;omega
    simp[hd]at this
    left;omega
theorem prime_2:Prime 2:=small_prime 2 (by decide) (by decide+kernel)
theorem prime_3:Prime 3:=small_prime 3 (by decide) (by decide+kernel)
theorem prime_5:Prime 5:=small_prime 5 (by decide) (by decide+kernel)
theorem prime_7:Prime 7:=small_prime 7 (by decide) (by decide+kernel)
theorem prime_11:Prime 11:=small_prime 11 (by decide) (by decide+kernel)
theorem prime_17:Prime 17:=small_prime 17 (by decide) (by decide+kernel)
theorem prime_23:Prime 23:=small_prime 23 (by decide) (by decide+kernel)
theorem prime_73:Prime 73:=small_prime 73 (by decide) (by decide+kernel)
theorem prime_821:Prime 821:=small_prime 821 (by decide) (by decide+kernel)
theorem prime_2311:Prime 2311:=small_prime 2311 (by decide) (by decide+kernel)
theorem prime_172411:Prime 172411:=by
  refine lucas_pm 172411 3 18 [2,3,5,7,821] (by decide) (by decide) (by decide) ?_ (by decide+kernel) ?_
  · intro r hr
    simp at hr
    rcases hr with rfl|rfl|rfl|rfl|rfl
    · exact prime_2
    · exact prime_3
    · exact prime_5
    · exact prime_7
    · exact prime_821
  · intro r hr
    simp at hr
    rcases hr with rfl|rfl|rfl|rfl|rfl
    · decide+kernel
    · decide+kernel
    · decide+kernel
    · decide+kernel
    · decide+kernel
theorem prime_7930907:Prime 7930907:=by
  refine lucas_pm 7930907 2 23 [2,23,172411] (by decide) (by decide) (by decide) ?_ (by decide+kernel) ?_
  · intro r hr
    simp at hr
    rcases hr with rfl|rfl|rfl
    · exact prime_2
    · exact prime_23
    · exact prime_172411
  · intro r hr
    simp at hr
    rcases hr with rfl|rfl|rfl
    · decide+kernel
    · decide+kernel
    · decide+kernel
theorem prime_11864636873:Prime 11864636873:=by
  refine lucas_pm 11864636873 5 34 [2,2,2,11,17,7930907] (by decide) (by decide) (by decide) ?_ (by decide+kernel) ?_
  · intro r hr
    simp at hr
    rcases hr with rfl|rfl|rfl|rfl
    · exact prime_2
    · exact prime_11
    · exact prime_17
    · exact prime_7930907
  · intro r hr
    simp at hr
    rcases hr with rfl|rfl|rfl|rfl
    · decide+kernel
    · decide+kernel
    · decide+kernel
    · decide+kernel
theorem prime_1732236983459:Prime 1732236983459:=by
  refine lucas_pm 1732236983459 2 41 [2,73,11864636873] (by decide) (by decide) (by decide) ?_ (by decide+kernel) ?_
  · intro r hr
    simp at hr
    rcases hr with rfl|rfl|rfl
    · exact prime_2
    · exact prime_73
    · exact prime_11864636873
  · intro r hr
    simp at hr
    rcases hr with rfl|rfl|rfl
    · decide+kernel
    · decide+kernel
    · decide+kernel
theorem prime_249442125618097:Prime 249442125618097:=by
  refine lucas_pm 249442125618097 5 48 [2,2,2,2,3,3,1732236983459] (by decide) (by decide) (by decide) ?_ (by decide+kernel) ?_
  · intro r hr
    simp at hr
    rcases hr with rfl|rfl|rfl
    · exact prime_2
    · exact prime_3
    · exact prime_1732236983459
  · intro r hr
    simp at hr
    rcases hr with rfl|rfl|rfl
    · decide+kernel
    · decide+kernel
    · decide+kernel
theorem prime_2305843009213688669:Prime 2305843009213688669:=by
  refine lucas_pm 2305843009213688669 2 61 [2,2,2311,249442125618097] (by decide) (by decide) (by decide) ?_ (by decide+kernel) ?_
  · intro r hr
    simp at hr
    rcases hr with rfl|rfl|rfl
    · exact prime_2
    · exact prime_2311
    · exact prime_249442125618097
  · intro r hr
    simp at hr
    rcases hr with rfl|rfl|rfl
    · decide+kernel
    · decide+kernel
    · decide+kernel
end Go.Num

namespace Go.Num
def q:Nat:=2305843009213688669
def M:Nat:=4611686018427377339
theorem q_def:q=2305843009213688669:=rfl
theorem q_prime:Prime q:=prime_2305843009213688669
theorem q_pos:0<q:=by decide
theorem M_one:1<M:=by decide
def pw (a n:Nat):Nat:=pm M 64 a n 1
theorem pw_eq (a n:Nat)(h:n<18446744073709551616):pw a n=a^n%M:=by
  have b:n<2^64:=by rw[show(2:Nat)^64=18446744073709551616 by decide];exact h
  rw[pw,pm_eq M 64 a n 1 b M_one,Nat.one_mul]
theorem step1 (a n out:Nat)(h:n%2=1):(out*a%M)*(a*a%M)^(n/2)%M=out*a^n%M:=by
  have e:a^n=a*(a*a)^(n/2):=by
    have b:n=2*(n/2)+1:=by omega
    conv=>lhs;rw[b]
    rw[Nat.pow_succ,Nat.pow_mul,Nat.pow_two,Nat.mul_comm]
  rw[e,Nat.mul_mod,Nat.mod_mod,<-Nat.pow_mod,<-Nat.mul_mod,Nat.mul_assoc]
theorem step0 (a n out:Nat)(h:¬n%2=1):out*(a*a%M)^(n/2)%M=out*a^n%M:=by
  have e:a^n=(a*a)^(n/2):=by
    have b:n=2*(n/2):=by omega
    conv=>lhs;rw[b]
    rw[Nat.pow_mul,Nat.pow_two]
  rw[e,Nat.mul_mod,<-Nat.pow_mod,<-Nat.mul_mod]
theorem pw_start (a n:Nat)(h:n<18446744073709551616):1*a^n%M=pw a n:=by rw[pw_eq a n h,Nat.one_mul]
theorem pw_end (a out:Nat)(h:out<M):out*a^0%M=out:=by rw[Nat.pow_zero,Nat.mul_one,Nat.mod_eq_of_lt h]
theorem q_lt:q<18446744073709551616:=by decide
def right (p:Nat):Bool:=decide (0<p)&&decide (p<M)&&decide (pw p q=1)
theorem right_iff (p:Nat):right p=true↔0<p/\p<M/\p^q%M=1:=by
  unfold right
  rw[pw_eq p q q_lt]
  simp[and_assoc]
def taken (p:Nat):Nat:=if right p then p else 1
def scale (p k:Nat):Nat:=pw (taken p) (k%q)
def base (k:Nat):Nat:=scale 4 k
def mulS (a b:Nat):Nat:=(a%q)*(b%q)%q
def addS (a b:Nat):Nat:=(a%q+b%q)%q
def negS (a:Nat):Nat:=(q-a%q)%q
def addP (a b:Nat):Nat:=taken a*taken b%M
theorem right_one:right 1=true:=by decide+kernel
theorem right_four:right 4=true:=by decide+kernel
theorem right_taken (p:Nat):right (taken p)=true:=by
  unfold taken
  split
  · assumption
  · exact right_one
theorem taken_right {p:Nat}(h:right p=true):taken p=p:=by rw[taken,if_pos h]
theorem pow_q {p:Nat}(h:right p=true):p^q%M=1:=((right_iff p).1 h).2.2
theorem pow_mod_q {p:Nat}(h:right p=true)(k:Nat):p^(k%q)%M=p^k%M:=by
  have e:k=q*(k/q)+k%q:=(Nat.div_add_mod k q).symm
  conv=>rhs;rw[e]
  rw[Nat.pow_add,Nat.pow_mul,Nat.mul_mod,Nat.pow_mod (p^q),pow_q h,Nat.one_pow,Nat.mod_eq_of_lt M_one,Nat.one_mul,Nat.mod_mod]
theorem right_pow {p:Nat}(h:right p=true)(k:Nat):right (p^k%M)=true:=by
  rw[right_iff]
  have b:(p^k%M)^q%M=1:=by
    rw[<-Nat.pow_mod,<-Nat.pow_mul,Nat.mul_comm,Nat.pow_mul,Nat.pow_mod,pow_q h,Nat.one_pow,Nat.mod_eq_of_lt M_one]
  refine⟨?_,Nat.mod_lt _ (by decide),b⟩
  rcases Nat.eq_zero_or_pos (p^k%M)with c|c
  · rw[c,Nat.zero_pow q_pos]at b
    simp at b
  · exact c
theorem mod_q_lt (k:Nat):k%q<18446744073709551616:=Nat.lt_trans (Nat.mod_lt _ q_pos) q_lt
theorem scale_eq (p k:Nat):scale p k=taken p^k%M:=by
  rw[scale,pw_eq _ _ (mod_q_lt k),pow_mod_q (right_taken p)]
theorem right_scale (p k:Nat):right (scale p k)=true:=by rw[scale_eq];exact right_pow (right_taken p) k
theorem scale_scale (p a b:Nat):scale (scale p a) b=scale p (a*b):=by
  rw[scale_eq (scale p a),taken_right (right_scale p a),scale_eq,scale_eq,<-Nat.pow_mod,<-Nat.pow_mul]
theorem scale_mod (p k:Nat):scale p (k%q)=scale p k:=by rw[scale,scale,Nat.mod_mod]
theorem mulS_eq (a b:Nat):mulS a b=a*b%q:=by rw[mulS,<-Nat.mul_mod]
theorem addS_eq (a b:Nat):addS a b=(a+b)%q:=by rw[addS,<-Nat.add_mod]
theorem scale_mulS (p a b:Nat):scale p (mulS a b)=scale (scale p a) b:=by rw[mulS_eq,scale_mod,scale_scale]
theorem right_base (k:Nat):right (base k)=true:=right_scale 4 k
theorem base_scale (x k:Nat):scale (base x) k=scale (base k) x:=by
  rw[base,base,scale_scale,scale_scale,Nat.mul_comm]
theorem one_scale {p k:Nat}(h:right p=true)(h1:p≠1)(hk:k%q≠0):scale p k≠1:=by
  rw[scale_eq,taken_right h]
  intro he
  obtain⟨d,_,⟨e,b⟩,hl⟩:=least (p:=fun k=>0<k/\p^k%M=1) q ⟨q_pos,pow_q h⟩
  have hl':∀j,j<d->0<j->¬p^j%M=1:=fun j hj f h=>hl j hj ⟨f,h⟩
  have hdq:d∣q:=pow_order M_one b (pow_q h) hl' e
  have hdk:d∣k:=pow_order M_one b he hl' e
  rcases q_prime.2 d hdq with c|c
  · subst c
    rw[Nat.pow_one,Nat.mod_eq_of_lt ((right_iff p).1 h).2.1]at b
    exact h1 b
  · subst c
    exact hk (Nat.dvd_iff_mod_eq_zero.1 hdk)
theorem base_ne_one {k:Nat}(hk:k%q≠0):base k≠1:=one_scale right_four (by decide) hk
theorem mulS_ne {a b:Nat}(ha:a%q≠0)(hb:b%q≠0):mulS a b%q≠0:=by
  rw[mulS_eq,Nat.mod_mod]
  intro h
  rcases q_prime.dvd_mul (Nat.dvd_iff_mod_eq_zero.2 h)with c|c
  · exact ha (Nat.dvd_iff_mod_eq_zero.1 c)
  · exact hb (Nat.dvd_iff_mod_eq_zero.1 c)
theorem addP_base (a b:Nat):addP (base a) (base b)=base (addS a b):=by
  rw[addP,taken_right (right_base a),taken_right (right_base b),base,base,base,addS_eq,scale_mod,scale_eq,scale_eq,scale_eq,<-Nat.mul_mod,Nat.pow_add]
theorem right_addP (a b:Nat):right (addP a b)=true:=by
  rw[right_iff]
  have c:(addP a b)^q%M=1:=by
    rw[addP,<-Nat.pow_mod,Nat.mul_pow,Nat.mul_mod,pow_q (right_taken a),pow_q (right_taken b),Nat.mul_one,Nat.mod_eq_of_lt M_one]
  refine⟨?_,Nat.mod_lt _ (by decide),c⟩
  rcases Nat.eq_zero_or_pos (addP a b)with d|d
  · rw[d,Nat.zero_pow q_pos]at c
    simp at c
  · exact d
def fromTo (n:Nat):List (BitVec 8)->Nat
  |[]=>n
  |b::l=>fromTo ((256*n+b.toNat)%(q-1)) l
def fromB (l:List (BitVec 8)):Nat:=fromTo 0 l+1
theorem fromTo_lt:∀(l:List (BitVec 8)) (n:Nat),n<q-1->fromTo n l<q-1
  |[],_,h=>h
  |_::l,_,_=>fromTo_lt l _ (Nat.mod_lt _ (by decide))
theorem fromB_lt (l:List (BitVec 8)):fromB l<q:=by
  have:=fromTo_lt l 0 (by decide)
  have:=q_pos
  unfold fromB;omega
theorem fromB_ne (l:List (BitVec 8)):fromB l%q≠0:=by rw[Nat.mod_eq_of_lt (fromB_lt l)];unfold fromB;omega
theorem fromTo_snoc (l:List (BitVec 8))(k n:Nat)(b:BitVec 8)(h:l[k]? =some b):fromTo n (l.take (k+1))=(256*fromTo n (l.take k)+b.toNat)%(q-1):=by
  have ap:∀(l m:List (BitVec 8)) (n:Nat),fromTo n (l++m)=fromTo (fromTo n l) m:=by
    intro l
    induction l with
    |nil=>intro m n;rfl
    |cons c l ih=>intro m n;exact ih m _
  rw[List.take_add_one,h,ap]
  rfl
end Go.Num

namespace Go.Hsp
abbrev Byte:=BitVec 8
abbrev Word:=BitVec 32
def be8 (m:Nat):List Byte:=[56,48,40,32,24,16,8,0].map fun k=>BitVec.ofNat 8 (m>>>k)
def be8To (m k:Nat):List Byte:=(be8 m).take k
theorem be8_length (m:Nat):(be8 m).length=8:=rfl
theorem be8To_succ (m k:Nat)(h:k<8):be8To m (k+1)=be8To m k++[BitVec.ofNat 8 (m>>>(56-8*k))]:=by
  have:k=0\/k=1\/k=2\/k=3\/k=4\/k=5\/k=6\/k=7:=by omega
  rcases this with rfl|rfl|rfl|rfl|rfl|rfl|rfl|rfl<;>rfl
def rot (x:Word)(k:Nat):Word:=x<<<(32-k)|||x>>>k
def be32 (b:List Byte):Word:=(b.getD 0 0).setWidth 32<<<24|||(b.getD 1 0).setWidth 32<<<16|||(b.getD 2 0).setWidth 32<<<8|||(b.getD 3 0).setWidth 32
def nextWord (w:List Word)(k:Nat):Word:=
  w.getD (k-16) 0+(rot (w.getD (k-15) 0) 7^^^rot (w.getD (k-15) 0) 18^^^(w.getD (k-15) 0)>>>3)+w.getD (k-7) 0
    +(rot (w.getD (k-2) 0) 17^^^rot (w.getD (k-2) 0) 19^^^(w.getD (k-2) 0)>>>10)
def schedTo (b:List Byte):Nat->List Word
  |0=>[]
  |k+1=>schedTo b k++[if k<16 then be32 (b.drop (4*k))else nextWord (schedTo b k) k]
theorem schedTo_length (b:List Byte):∀k,(schedTo b k).length=k
  |0=>rfl
  |k+1=>by simp[schedTo,schedTo_length b k]
def sched (b:List Byte):List Word:=schedTo b 64
def table:List Word:=[
  0x428a2f98,0x71374491,0xb5c0fbcf,0xe9b5dba5,0x3956c25b,0x59f111f1,0x923f82a4,0xab1c5ed5,
  0xd807aa98,0x12835b01,0x243185be,0x550c7dc3,0x72be5d74,0x80deb1fe,0x9bdc06a7,0xc19bf174,
  0xe49b69c1,0xefbe4786,0x0fc19dc6,0x240ca1cc,0x2de92c6f,0x4a7484aa,0x5cb0a9dc,0x76f988da,
  0x983e5152,0xa831c66d,0xb00327c8,0xbf597fc7,0xc6e00bf3,0xd5a79147,0x06ca6351,0x14292967,
  0x27b70a85,0x2e1b2138,0x4d2c6dfc,0x53380d13,0x650a7354,0x766a0abb,0x81c2c92e,0x92722c85,
  0xa2bfe8a1,0xa81a664b,0xc24b8b70,0xc76c51a3,0xd192e819,0xd6990624,0xf40e3585,0x106aa070,
  0x19a4c116,0x1e376c08,0x2748774c,0x34b0bcb5,0x391c0cb3,0x4ed8aa4a,0x5b9cca4f,0x682e6ff3,
  0x748f82ee,0x78a5636f,0x84c87814,0x8cc70208,0x90befffa,0xa4506ceb,0xbef9a3f7,0xc67178f2]
def first:List Word:=[0x6a09e667,0xbb67ae85,0x3c6ef372,0xa54ff53a,0x510e527f,0x9b05688c,0x1f83d9ab,0x5be0cd19]
def stepW (v:List Word)(k w:Word):List Word:=
  let s:=rot (v.getD 4 0) 6^^^rot (v.getD 4 0) 11^^^rot (v.getD 4 0) 25
  let t:=v.getD 7 0+s+(v.getD 6 0^^^v.getD 4 0&&&(v.getD 5 0^^^v.getD 6 0))+k+w
  let r:=rot (v.getD 0 0) 2^^^rot (v.getD 0 0) 13^^^rot (v.getD 0 0) 22
  let most:=v.getD 0 0&&&v.getD 1 0|||v.getD 2 0&&&(v.getD 0 0|||v.getD 1 0)
  [t+r+most,v.getD 0 0,v.getD 1 0,v.getD 2 0,v.getD 3 0+t,v.getD 4 0,v.getD 5 0,v.getD 6 0]
def roundsTo (h:List Word)(ws:List Word):Nat->List Word
  |0=>h
  |i+1=>stepW (roundsTo h ws i) (table.getD i 0) (ws.getD i 0)
theorem roundsTo_length (h ws:List Word)(hh:h.length=8):∀i,(roundsTo h ws i).length=8
  |0=>hh
  |i+1=>by simp[roundsTo,stepW]
def addTo (v h:List Word)(i:Nat):List Word:=(List.range 8).map fun j=>if j<i then v.getD j 0+h.getD j 0 else v.getD j 0
theorem addTo_length (v h:List Word)(i:Nat):(addTo v h i).length=8:=by simp[addTo]
theorem addTo_zero (v h:List Word)(hv:v.length=8):addTo v h 0=v:=by
  apply List.ext_getElem (by simp[addTo,hv])
  intro j c b
  simp[addTo,List.getD,b]
theorem addTo_getElem (v h:List Word)(i j:Nat)(hj:j<8):(addTo v h i)[j]? =some (if j<i then v.getD j 0+h.getD j 0 else v.getD j 0):=by simp[addTo,hj]
theorem addTo_at (v h:List Word)(i j:Nat)(hj:j<8):(addTo v h i).getD j 0=if j<i then v.getD j 0+h.getD j 0 else v.getD j 0:=by
  rw[List.getD_eq_getElem?_getD,addTo_getElem v h i j hj];rfl
theorem addTo_succ (v h:List Word)(i:Nat)(hi:i<8):(addTo v h i).set i (v.getD i 0+h.getD i 0)=addTo v h (i+1):=by
  apply List.ext_getElem?
  intro j
  by_cases hj:j<8
  · rw[addTo_getElem v h (i+1) j hj,List.getElem?_set]
    split
    · subst_vars;simp[addTo_length,hi]
    · rename_i hne
      rw[addTo_getElem v h i j hj]
      by_cases b:j<i
      · rw[if_pos b,if_pos (by omega)]
      · rw[if_neg b,if_neg (by omega)]
  · rw[List.getElem?_eq_none (by simp[addTo_length];omega),List.getElem?_eq_none (by simp[addTo_length];omega)]
def mix (h:List Word)(b:List Byte):List Word:=addTo (roundsTo h (sched b) 64) h 8
theorem mix_length (h:List Word)(b:List Byte):(mix h b).length=8:=addTo_length _ _ _
def mixN (h:List Word)(b:List Byte):Nat->List Word
  |0=>h
  |n+1=>mixN (mix h (b.take 64)) (b.drop 64) n
def mixAll (h:List Word)(b:List Byte):List Word:=mixN h b (b.length/64)
theorem mixAll_step (h:List Word)(b:List Byte)(hb:64<=b.length):mixAll h b=mixAll (mix h (b.take 64)) (b.drop 64):=by
  unfold mixAll
  rw[List.length_drop,show b.length/64=(b.length-64)/64+1 by omega]
  rfl
theorem mixAll_end (h:List Word)(b:List Byte)(hb:b.length<64):mixAll h b=h:=by
  unfold mixAll
  rw[Nat.div_eq_of_lt hb]
  rfl
def noughts (n:Nat):Nat:=(64+55-n%64)%64
def tail (b:List Byte):List Byte:=b.drop (b.length-b.length%64)++[128]++List.replicate (noughts b.length) 0++be8 (8*b.length)
def digest (h:List Word):List Byte:=(List.range 32).map fun k=>((h.getD (k/4) 0)>>>(24-8*(k%4))).setWidth 8
def digestTo (h:List Word)(k:Nat):List Byte:=(digest h).take k++List.replicate (32-k) 0
theorem digest_length (h:List Word):(digest h).length=32:=by simp[digest]
theorem digestTo_length (h:List Word)(k:Nat)(hk:k<=32):(digestTo h k).length=32:=by simp[digestTo,digest_length];omega
theorem digestTo_succ (h:List Word)(k:Nat)(hk:k<32):(digestTo h k).set k (((h.getD (k/4) 0)>>>(24-8*(k%4))).setWidth 8)=digestTo h (k+1):=by
  have e:(digest h)[k]? =some (((h.getD (k/4) 0)>>>(24-8*(k%4))).setWidth 8):=by simp[digest,hk]
  unfold digestTo
  have hl:((digest h).take k).length=k:=by simp[digest_length];omega
  rw[List.set_append,if_neg (by rw[hl];omega),hl,Nat.sub_self,show(32-k)=(32-(k+1))+1 by omega,List.replicate_succ,List.set_cons_zero,List.take_add_one,e]
  simp
def sum (b:List Byte):List Byte:=digest (mixAll (mixAll first b) (tail b))
theorem sum_length (b:List Byte):(sum b).length=32:=digest_length _
theorem tail_length (b:List Byte):(tail b).length%64=0:=by
  simp only[tail,List.length_append,List.length_drop,List.length_replicate,be8_length,List.length_singleton,noughts]
  omega
def tagBytes (name:List Byte):List (List Byte)->List Byte
  |parts=>be8 name.length++name++(parts.map fun p=>be8 p.length++p).flatten
def tagTo (name:List Byte)(parts:List (List Byte))(k:Nat):List Byte:=be8 name.length++name++((parts.take k).map fun p=>be8 p.length++p).flatten
theorem tagTo_zero (name:List Byte)(parts:List (List Byte)):tagTo name parts 0=be8 name.length++name:=by simp[tagTo]
theorem tagTo_succ (name:List Byte)(parts:List (List Byte))(k:Nat)(q:List Byte)(h:parts[k]? =some q):tagTo name parts (k+1)=tagTo name parts k++be8 q.length++q:=by
  simp[tagTo,List.take_add_one,h]
theorem tagTo_all (name:List Byte)(parts:List (List Byte))(k:Nat)(h:parts.length<=k):tagTo name parts k=tagBytes name parts:=by
  simp[tagTo,tagBytes,List.take_of_length_le h]
theorem tagTo_le (name:List Byte)(parts:List (List Byte))(k:Nat):(tagTo name parts k).length<=(tagBytes name parts).length:=by
  have e:tagBytes name parts=tagTo name parts k++((parts.drop k).map fun p=>be8 p.length++p).flatten:=by
    unfold tagTo tagBytes
    rw[List.append_assoc (be8 name.length++name),<-List.flatten_append,<-List.map_append,List.take_append_drop]
  rw[e,List.length_append]
  exact Nat.le_add_right _ _
theorem flat_parts:∀(parts:List (List Byte)),8*parts.length<=((parts.map fun p=>be8 p.length++p).flatten).length
  |[]=>by simp
  |p::ps=>by
    have:=flat_parts ps
    simp only[List.map_cons,List.flatten_cons,List.length_append,be8_length,List.length_cons]
    omega
theorem tagBytes_parts (name:List Byte)(parts:List (List Byte)):8*parts.length<=(tagBytes name parts).length:=by
  have:=flat_parts parts
  unfold tagBytes
  rw[List.length_append]
  omega
def tag (name:List Byte)(parts:List (List Byte)):List Byte:=sum (tagBytes name parts)
theorem tag_length (name:List Byte)(parts:List (List Byte)):(tag name parts).length=32:=sum_length _
end Go.Hsp

namespace Go.Hsp
def nStream:List Byte:=[115,116,114,101,97,109]
def streamTo (key:List Byte)(j:Nat):List Byte:=((List.range j).map fun i=>tag nStream [key,be8 i]).flatten
theorem streamTo_succ (key:List Byte)(j:Nat):streamTo key (j+1)=streamTo key j++tag nStream [key,be8 j]:=by
  simp[streamTo,List.range_succ]
theorem streamTo_length (key:List Byte):∀j,(streamTo key j).length=32*j
  |0=>rfl
  |j+1=>by rw[streamTo_succ,List.length_append,streamTo_length key j,tag_length];omega
def stream (key:List Byte)(n:Nat):List Byte:=(streamTo key ((n+31)/32)).take n
theorem stream_length (key:List Byte)(n:Nat):(stream key n).length=n:=by
  rw[stream,List.length_take,streamTo_length];omega
def xorB (a b:List Byte):List Byte:=List.zipWith (· ^^^ ·) a b
theorem xorB_length (a b:List Byte)(h:a.length=b.length):(xorB a b).length=b.length:=by simp[xorB,h]
def overTo (s b:List Byte)(k:Nat):List Byte:=(xorB s b).take k++s.drop k
theorem overTo_length (s b:List Byte)(k:Nat)(h:s.length=b.length)(hk:k<=b.length):(overTo s b k).length=b.length:=by
  simp[overTo,xorB,h];omega
theorem overTo_at (s b:List Byte)(k:Nat)(h:s.length=b.length)(hk:k<b.length):(overTo s b k).getD k 0=s.getD k 0:=by
  have hl:((xorB s b).take k).length=k:=by simp[xorB,h];omega
  simp only[overTo,List.getD_eq_getElem?_getD]
  rw[List.getElem?_append_right (by omega),hl,Nat.sub_self,List.getElem?_drop,Nat.add_zero]
theorem overTo_succ (s b:List Byte)(k:Nat)(h:s.length=b.length)(hk:k<b.length):(overTo s b k).set k (s.getD k 0^^^b.getD k 0)=overTo s b (k+1):=by
  have hl:((xorB s b).take k).length=k:=by simp[xorB,h];omega
  have hs:k<s.length:=by omega
  have e:(xorB s b)[k]? =some (s.getD k 0^^^b.getD k 0):=by
    have hz:k<(List.zipWith (fun c d=>c^^^d) s b).length:=by simp;omega
    rw[xorB,List.getElem?_eq_getElem hz,List.getElem_zipWith]
    simp[hs,hk,List.getD]
  unfold overTo
  rw[List.set_append,if_neg (by omega),hl,Nat.sub_self,List.drop_eq_getElem_cons hs,List.set_cons_zero,List.take_add_one,e]
  simp
theorem overTo_all (s b:List Byte)(h:s.length=b.length):overTo s b b.length=xorB s b:=by
  unfold overTo
  rw[List.take_of_length_le (by rw[xorB_length s b h];exact Nat.le_refl _),List.drop_of_length_le (by omega),List.append_nil]
theorem overTo_zero (s b:List Byte):overTo s b 0=s:=by simp[overTo]
def overB (key b:List Byte):List Byte:=xorB (stream key b.length) b
def inner (key s:List Byte):List Byte:=overB key (s.take (s.length-8))
end Go.Hsp

namespace Go.Osp
open Go.Hsp Go.Num
abbrev Hop:=Int×Int×Int×Int×Nat×Nat
abbrev Stop:=Nat×List Byte
def nShared:List Byte:=[115,104,97,114,101,100]
def nBlind:List Byte:=[98,108,105,110,100]
def nRho:List Byte:=[114,104,111]
def nMac:List Byte:=[109,97,99]
def nOnion:List Byte:=[111,110,105,111,110]
def nPad:List Byte:=[112,97,100]
def usg (i:Int):Nat:=(i%18446744073709551616).toNat
def sgn (n:Nat):Int:=if n<9223372036854775808 then(n:Int)else(n:Int)-18446744073709551616
theorem usg_lt (i:Int):usg i<18446744073709551616:=by unfold usg;omega
theorem sgn_usg (i:Int)(h: -9223372036854775808<=i/\i<=9223372036854775807):sgn (usg i)=i:=by
  unfold sgn usg
  split<;>omega
def layB (h:Hop):List Byte:=be8 (usg h.1)++be8 (usg h.2.1)++be8 (usg h.2.2.1)++be8 (usg h.2.2.2.1)++be8 h.2.2.2.2.1++be8 h.2.2.2.2.2
theorem layB_length (h:Hop):(layB h).length=48:=rfl
def numTo (n:Nat):List Byte->Nat
  |[]=>n
  |c::l=>numTo (n*256+c.toNat) l
def numB (b:List Byte):Nat:=numTo 0 (b.take 8)
theorem numTo_lt:∀(l:List Byte) (n k:Nat),n<256^k->numTo n l<256^(k+l.length)
  |[],n,k,h=>h
  |c::l,n,k,h=>by
    have:=numTo_lt l (n*256+c.toNat) (k+1) (by rw[Nat.pow_succ];have:=c.isLt;omega)
    rw[List.length_cons,show k+(l.length+1)=k+1+l.length by omega]
    exact this
theorem numB_lt (b:List Byte):numB b<18446744073709551616:=by
  have h:=numTo_lt (b.take 8) 0 0 (by decide)
  have c:256^(0+(b.take 8).length)<=256^8:=Nat.pow_le_pow_right (by decide) (by rw[List.length_take];omega)
  have d:(256:Nat)^8=18446744073709551616:=by decide
  unfold numB;omega
theorem numB_be8 (n:Nat)(h:n<18446744073709551616)(l:List Byte):numB (be8 n++l)=n:=by
  rw[numB,List.take_left' (be8_length n)]
  simp only[be8,List.map_cons,List.map_nil,numTo,BitVec.toNat_ofNat,Nat.shiftRight_eq_div_pow]
  omega
def readH (b:List Byte):Hop:=(sgn (numB b),sgn (numB (b.drop 8)),sgn (numB (b.drop 16)),sgn (numB (b.drop 24)),numB (b.drop 32),numB (b.drop 40))
def mayB (h:Hop):Bool:=(decide (-1<=h.1/\h.1<=11)&&decide (0<=h.2.1/\h.2.1<=1048575)&&decide (0<=h.2.2.1/\h.2.2.1<=1125899906842624)&&decide (0<=h.2.2.2.1/\h.2.2.2.1<=1048576))&&(decide (h.2.2.2.2.2<q)&&(decide (h.2.2.2.2.1=0)||right h.2.2.2.2.1))
def I64 (i:Int):Prop:= -9223372036854775808<=i/\i<=9223372036854775807
def HopOk (h:Hop):Prop:=I64 h.1/\I64 h.2.1/\I64 h.2.2.1/\I64 h.2.2.2.1/\h.2.2.2.2.1<18446744073709551616/\h.2.2.2.2.2<18446744073709551616
theorem sgn_ok (n:Nat)(h:n<18446744073709551616):I64 (sgn n):=by
  unfold I64 sgn
  split<;>omega
theorem readH_ok (b:List Byte):HopOk (readH b):=⟨sgn_ok _ (numB_lt _),sgn_ok _ (numB_lt _),sgn_ok _ (numB_lt _),sgn_ok _ (numB_lt _),numB_lt _,numB_lt _⟩
theorem readH_lay (h:Hop)(ho:HopOk h)(l:List Byte):readH (layB h++l)=h:=by
  obtain⟨n,c,a,e,p,b⟩:=h
  obtain⟨f,i,j,o,s,t⟩:=ho
  simp only[readH,layB,List.append_assoc]
  have d:∀(x:Nat) (m:List Byte) (k:Nat),(be8 x++m).drop (8+k)=m.drop k:=fun x m k=>by
    rw[<-List.drop_drop,List.drop_left' (be8_length x)]
  rw[d _ _ 0,d _ _ 8,d _ _ 0,d _ _ 16,d _ _ 8,d _ _ 0,d _ _ 24,d _ _ 16,d _ _ 8,d _ _ 0,d _ _ 32,d _ _ 24,d _ _ 16,d _ _ 8,d _ _ 0]
  simp only[List.drop_zero]
  rw[numB_be8 _ (usg_lt _),numB_be8 _ (usg_lt _),numB_be8 _ (usg_lt _),numB_be8 _ (usg_lt _),numB_be8 _ s,numB_be8 _ t,sgn_usg _ f,sgn_usg _ i,sgn_usg _ j,sgn_usg _ o]
def sharedB (p:Nat):List Byte:=tag nShared [be8 p]
theorem sharedB_length (p:Nat):(sharedB p).length=32:=tag_length _ _
def blindB (s:Stop):Nat:=fromB (tag nBlind [be8 s.1,s.2])
def rho (s:Stop)(n:Nat):List Byte:=stream (tag nRho [s.2]) n
theorem rho_length (s:Stop)(n:Nat):(rho s n).length=n:=stream_length _ _
def macB (s:Stop)(b:List Byte):List Byte:=tag nMac [s.2,b]
theorem macB_length (s:Stop)(b:List Byte):(macB s b).length=32:=tag_length _ _
def startX (seed:List Byte):Nat:=fromB (tag nOnion [seed])
def padO (seed:List Byte):List Byte:=stream (tag nPad [seed]) 640
def stopB (x k:Nat):Stop:=(base x,sharedB (scale k x))
def nextX (x k:Nat):Nat:=mulS x (blindB (stopB x k))
def wayB:Nat->List Nat->List Stop
  |_,[]=>[]
  |x,k::ks=>stopB x k::wayB (nextX x k) ks
theorem wayB_length:∀(ks:List Nat) (x:Nat),(wayB x ks).length=ks.length
  |[],_=>rfl
  |_::ks,_=>by simp[wayB,wayB_length ks]
def keyOk (k:Nat):Bool:=decide (k≠1)&&right k
def keysOk (ks:List Nat):Bool:=decide (1<=ks.length)&&decide (ks.length<=8)&&ks.all keyOk
def zeros (n:Nat):List Byte:=List.replicate n 0
theorem zeros_length (n:Nat):(zeros n).length=n:=List.length_replicate
def fillS (f:List Byte)(s:Stop):List Byte:=xorB (f++zeros 80) ((rho s 720).drop (720-(f.length+80)))
theorem fillS_length (f:List Byte)(s:Stop)(h:f.length+80<=720):(fillS f s).length=f.length+80:=by
  rw[fillS,xorB_length _ _ (by rw[List.length_append,zeros_length,List.length_drop,rho_length];omega),List.length_drop,rho_length];omega
def fillTo:List Byte->List Stop->List Byte
  |f,[]=>f
  |f,s::l=>fillTo (fillS f s) l
def filler (l:List Stop):List Byte:=fillTo [] (l.take (l.length-1))
theorem fillTo_append:∀(l m:List Stop) (f:List Byte),fillTo f (l++m)=fillTo (fillTo f l) m
  |[],_,_=>rfl
  |_::l,m,_=>fillTo_append l m _
theorem fillTo_length:∀(l:List Stop) (f:List Byte),f.length+80*l.length<=720->(fillTo f l).length=f.length+80*l.length
  |[],_,_=>rfl
  |s::l,f,h=>by
    rw[List.length_cons]at h ⊢
    have h1:=fillS_length f s (by omega)
    rw[fillTo,fillTo_length l _ (by omega)]
    omega
def put (r f:List Byte):List Byte:=r.take (r.length-f.length)++f
def layer (s:Stop)(h:Hop)(m r:List Byte):List Byte:=xorB (layB h++m++r.take 560) (rho s 640)
theorem layer_length (s:Stop)(h:Hop)(m r:List Byte)(hm:m.length=32)(hr:r.length=640):(layer s h m r).length=640:=by
  rw[layer,xorB_length _ _ (by simp[layB_length,rho_length,hm,hr]),rho_length]
def wrapR (pad:List Byte):List Byte->List Stop->List Hop->List Byte×List Byte
  |f,[s],h::_=>(put (layer s h (zeros 32) pad) f,macB s (put (layer s h (zeros 32) pad) f))
  |f,s::l,h::hs=>(layer s h (wrapR pad (fillS f s) l hs).2 (wrapR pad (fillS f s) l hs).1,macB s (layer s h (wrapR pad (fillS f s) l hs).2 (wrapR pad (fillS f s) l hs).1))
  |_,_,_=>(pad,zeros 32)
theorem wrapR_one (pad f:List Byte)(s:Stop)(h:Hop)(hs:List Hop):wrapR pad f [s] (h::hs)=(put (layer s h (zeros 32) pad) f,macB s (put (layer s h (zeros 32) pad) f)):=rfl
theorem wrapR_more (pad f:List Byte)(s t:Stop)(l:List Stop)(h:Hop)(hs:List Hop):wrapR pad f (s::t::l) (h::hs)=(layer s h (wrapR pad (fillS f s) (t::l) hs).2 (wrapR pad (fillS f s) (t::l) hs).1,macB s (layer s h (wrapR pad (fillS f s) (t::l) hs).2 (wrapR pad (fillS f s) (t::l) hs).1)):=rfl
theorem put_length (r f:List Byte)(h:f.length<=r.length):(put r f).length=r.length:=by simp[put];omega
theorem wrapR_mac (pad:List Byte):∀(l:List Stop) (hs:List Hop) (f:List Byte) (s:Stop),(s::l).length=hs.length->(wrapR pad f (s::l) hs).2=macB s (wrapR pad f (s::l) hs).1
  |[],[_],_,_,_=>rfl
  |_::_,_::_::_,_,_,_=>rfl
  |[],[],_,_,h=>by simp at h
  |_::_,[],_,_,h=>by simp at h
  |_::_,[_],_,_,h=>by simp at h
  |[],_::_::_,_,_,h=>by simp at h
theorem wrapR_length (pad:List Byte)(hp:pad.length=640):∀(l:List Stop) (hs:List Hop) (f:List Byte),l.length=hs.length->f.length+80*l.length<=640->(wrapR pad f l hs).1.length=640/\(wrapR pad f l hs).2.length=32
  |[],[],_,_,_=>⟨hp,zeros_length _⟩
  |[s],[h],f,_,hl=>by
    rw[wrapR_one]
    refine⟨?_,macB_length _ _⟩
    have h1:=layer_length s h (zeros 32) pad (zeros_length _) hp
    simp only[List.length_cons,List.length_nil]at hl
    rw[put_length _ _ (by omega),h1]
  |s::t::l,h::h'::hs,f,he,hl=>by
    simp only[List.length_cons]at hl he
    have h1:=fillS_length f s (by omega)
    obtain⟨b,c⟩:=wrapR_length pad hp (t::l) (h'::hs) (fillS f s) (by simp only[List.length_cons];omega) (by simp only[List.length_cons];omega)
    rw[wrapR_more]
    exact⟨layer_length _ _ _ _ c b,macB_length _ _⟩
  |[],_::_,_,he,_=>by simp at he
  |_::_,[],_,he,_=>by simp at he
  |[_],_::_::_,_,he,_=>by simp at he
  |_::_::_,[_],_,he,_=>by simp at he
theorem stream_take (key:List Byte)(a b:Nat)(h:a<=b):(stream key b).take a=stream key a:=by
  have pre:∀i j,i<=j->(streamTo key j).take (32*i)=streamTo key i:=by
    intro i j hij
    induction j with
    |zero=>have:i=0:=(by omega);subst this;rfl
    |succ j ih=>
      by_cases he:i=j+1
      · subst he;exact List.take_of_length_le (by rw[streamTo_length];exact Nat.le_refl _)
      · rw[streamTo_succ,List.take_append_of_le_length (by rw[streamTo_length];omega),ih (by omega)]
  unfold stream
  rw[<-pre ((a+31)/32) ((b+31)/32) (by omega),List.take_take,List.take_take]
  congr 1
  omega
theorem rho_take (s:Stop)(a b:Nat)(h:a<=b):(rho s b).take a=rho s a:=stream_take _ a b h
theorem xorB_take (a b:List Byte)(n:Nat):(xorB a b).take n=xorB (a.take n) (b.take n):=List.take_zipWith
theorem xorB_drop (a b:List Byte)(n:Nat):(xorB a b).drop n=xorB (a.drop n) (b.drop n):=List.drop_zipWith
theorem xorB_append (a b c d:List Byte)(h:a.length=c.length):xorB (a++b) (c++d)=xorB a c++xorB b d:=List.zipWith_append h
theorem xorB_cancel (a s:List Byte)(h:a.length=s.length):xorB (xorB a s) s=a:=by
  apply List.ext_getElem (by simp[xorB,h])
  intro i b c
  simp only[xorB,List.getElem_zipWith,BitVec.xor_assoc,BitVec.xor_self,BitVec.xor_zero]
theorem xorB_zeros (n:Nat)(s:List Byte)(h:s.length=n):xorB (zeros n) s=s:=by
  subst h
  apply List.ext_getElem (by simp[xorB,zeros])
  intro i b c
  simp[xorB,zeros]
theorem wrapR_tail (pad:List Byte)(hp:pad.length=640):∀(l:List Stop) (hs:List Hop) (f:List Byte),l≠[]->l.length=hs.length->f.length+80*l.length<=640->(wrapR pad f l hs).1.drop (640-f.length)=f
  |[],_,_,hn,_,_=>absurd rfl hn
  |[s],[h],f,_,_,hl=>by
    rw[wrapR_one]
    have h1:=layer_length s h (zeros 32) pad (zeros_length _) hp
    simp only[List.length_cons,List.length_nil]at hl
    simp only[put,h1]
    rw[List.drop_left' (by rw[List.length_take,h1];omega)]
  |s::t::l,h::h'::hs,f,_,he,hl=>by
    simp only[List.length_cons]at hl he
    have h1:=fillS_length f s (by omega)
    have b:=wrapR_length pad hp (t::l) (h'::hs) (fillS f s) (by simp only[List.length_cons];omega) (by simp only[List.length_cons];omega)
    have ih:=wrapR_tail pad hp (t::l) (h'::hs) (fillS f s) (by simp) (by simp only[List.length_cons];omega) (by simp only[List.length_cons];omega)
    rw[wrapR_more]
    generalize wrapR pad (fillS f s) (t::l) (h'::hs)=rm at*
    simp only[layer]
    rw[xorB_drop,List.drop_append,List.drop_of_length_le (by simp[layB_length,b.2];omega),List.nil_append,List.length_append,layB_length,b.2]
    have c:(rm.1.take 560).drop (640-f.length-(48+32))=(fillS f s).take f.length:=by
      rw[List.drop_take,<-ih,h1,show 640-f.length-(48+32)=640-(f.length+80) by omega,show 560-(640-(f.length+80))=f.length by omega]
    rw[c,fillS,xorB_take,List.take_left,List.take_drop,show 720-(f.length+80)+f.length=640 by omega]
    rw[show 720-(f.length+80)=640-f.length by omega,rho_take s 640 720 (by decide),xorB_cancel _ _ (by rw[List.length_drop,rho_length];omega)]
  |[_],[],_,_,he,_=>by simp at he
  |_::_,[],_,_,he,_=>by simp at he
  |[_],_::_::_,_,_,he,_=>by simp at he
  |_::_::_,[_],_,_,he,_=>by simp at he
def opened (s:Stop)(r:List Byte):List Byte:=xorB (r++zeros 80) (rho s 720)
theorem rho_split (s:Stop):rho s 720=rho s 640++(rho s 720).drop 640:=by
  rw[<-rho_take s 640 720 (by decide),List.take_append_drop]
theorem opened_layer (s:Stop)(h:Hop)(m r:List Byte)(hm:m.length=32)(hr:r.length=640):opened s (layer s h m r)=layB h++m++r.take 560++(rho s 720).drop 640:=by
  rw[opened]
  conv=>lhs;rw[rho_split]
  rw[xorB_append _ _ _ _ (by rw[layer_length s h m r hm hr,rho_length]),xorB_zeros 80 _ (by rw[List.length_drop,rho_length]),layer,xorB_cancel _ _ (by simp[layB_length,rho_length,hm,hr])]
theorem opened_put (s:Stop)(h:Hop)(m r f:List Byte)(hm:m.length=32)(hr:r.length=640)(hf:f.length+80<=640):(opened s (put (layer s h m r) f)).take 48=layB h:=by
  have hl:=layer_length s h m r hm hr
  have e:(put (layer s h m r) f).take 48=(layer s h m r).take 48:=by
    rw[put,List.take_append_of_le_length (by rw[List.length_take];omega),List.take_take];congr 1;omega
  have hp:=put_length (layer s h m r) f (by omega)
  rw[opened,xorB_take,List.take_append_of_le_length (by omega),e]
  have:=congrArg (List.take 48) (opened_layer s h m r hm hr)
  rw[opened,xorB_take,List.take_append_of_le_length (by omega)]at this
  rw[this,List.append_assoc,List.append_assoc,List.take_left' (layB_length h)]
def packetB (e:Nat)(rm:List Byte×List Byte):List Byte:=be8 e++rm.1++rm.2
def wrapB (ks:List Nat)(hs:List Hop)(seed:List Byte):List Byte:=packetB (base (startX seed)) (wrapR (padO seed) [] (wayB (startX seed) ks) hs)
def hopsOk (ks:List Nat)(hs:List Hop):Bool:=decide (hs.length=ks.length)&&(List.range hs.length).all fun i=>mayB (hs.getD i (0,0,0,0,0,0))&&decide (decide ((hs.getD i (0,0,0,0,0,0)).1<0)=decide (i+1=hs.length))
def noHop:Hop:=(0,0,0,0,0,0)
def peelB (k:Nat)(p:List Byte):Hop×List Byte×List Byte×Int:=
  if k=0\/q<=k then(noHop,[],zeros 32,1)
  else if p.length≠680 then(noHop,[],zeros 32,2)
  else if keyOk (numB p)=false then(noHop,[],zeros 32,2)
  else if macB (numB p,sharedB (scale (numB p) k)) ((p.drop 8).take 640)≠p.drop 648 then(noHop,[],zeros 32,18)
  else if mayB (readH (opened (numB p,sharedB (scale (numB p) k)) ((p.drop 8).take 640)))=false then(noHop,[],zeros 32,2)
  else(readH (opened (numB p,sharedB (scale (numB p) k)) ((p.drop 8).take 640)),
    if(readH (opened (numB p,sharedB (scale (numB p) k)) ((p.drop 8).take 640))).1<0 then[]
    else be8 (scale (numB p) (blindB (numB p,sharedB (scale (numB p) k))))++(opened (numB p,sharedB (scale (numB p) k)) ((p.drop 8).take 640)).drop 80++((opened (numB p,sharedB (scale (numB p) k)) ((p.drop 8).take 640)).drop 48).take 32,
    sharedB (scale (numB p) k),0)
theorem packetB_length (e:Nat)(rm:List Byte×List Byte)(h1:rm.1.length=640)(h2:rm.2.length=32):(packetB e rm).length=680:=by simp[packetB,be8_length,h1,h2]
theorem M_lt:M<18446744073709551616:=by decide
theorem peelB_packet (k e:Nat)(rm:List Byte×List Byte)(hk:k≠0/\k<q)(he:right e=true)(he1:e≠1)(h1:rm.1.length=640)(h2:rm.2.length=32)(hm:rm.2=macB (e,sharedB (scale e k)) rm.1)
    (hy:mayB (readH (opened (e,sharedB (scale e k)) rm.1))=true):
    peelB k (packetB e rm)=(readH (opened (e,sharedB (scale e k)) rm.1),if(readH (opened (e,sharedB (scale e k)) rm.1)).1<0 then[]else packetB (scale e (blindB (e,sharedB (scale e k)))) ((opened (e,sharedB (scale e k)) rm.1).drop 80,((opened (e,sharedB (scale e k)) rm.1).drop 48).take 32),sharedB (scale e k),0):=by
  have hl:=packetB_length e rm h1 h2
  have hen:numB (packetB e rm)=e:=by
    rw[packetB,List.append_assoc,numB_be8 e (Nat.lt_trans ((right_iff e).1 he).2.1 M_lt)]
  have hr:((packetB e rm).drop 8).take 640=rm.1:=by
    rw[packetB,List.append_assoc,List.drop_left' (be8_length e),List.take_left' h1]
  have hd:(packetB e rm).drop 648=rm.2:=by
    rw[packetB,List.drop_left' (by simp[be8_length,h1])]
  have hko:keyOk e=true:=by simp[keyOk,he,he1]
  rw[peelB,hen,hr,hd,if_neg (by omega),if_neg (by omega),if_neg (by rw[hko];simp),if_neg (by rw[<-hm];simp),if_neg (by rw[hy];simp)]
  rfl
theorem scale_key (x k:Nat):scale (base x) k=scale (base k) x:=base_scale x k
theorem peel_last (pad f:List Byte)(hp:pad.length=640)(x k:Nat)(hx:x%q≠0)(hk:k≠0/\k<q)(h:Hop)(ho:HopOk h)(hy:mayB h=true)(hn:h.1<0)(hf:f.length+80<=640):
    peelB k (packetB (base x) (wrapR pad f (wayB x [base k]) [h]))=(h,[],sharedB (scale (base k) x),0):=by
  have hs:stopB x (base k)=(base x,sharedB (scale (base x) k)):=by rw[stopB,scale_key]
  have hl:=wrapR_length pad hp (wayB x [base k]) [h] f rfl (by rw[wayB_length];simp;omega)
  have hrd:readH (opened (base x,sharedB (scale (base x) k)) (wrapR pad f (wayB x [base k]) [h]).1)=h:=by
    show readH (opened _ (put (layer (stopB x (base k)) h (zeros 32) pad) f))=h
    rw[hs]
    rw[<-List.take_append_drop 48 (opened _ _),opened_put _ h _ pad f (zeros_length 32) hp hf,readH_lay h ho]
  rw[peelB_packet k (base x) _ hk (right_base x) (base_ne_one hx) hl.1 hl.2 (by rw[<-hs];exact wrapR_mac pad [] [h] f (stopB x (base k)) rfl) (by rw[hrd];exact hy),hrd,if_pos hn,scale_key x k]
theorem peel_more (pad f:List Byte)(hp:pad.length=640)(x k:Nat)(hx:x%q≠0)(hk:k≠0/\k<q)(h h':Hop)(ks:List Nat)(k':Nat)(hs:List Hop)(ho:HopOk h)(hy:mayB h=true)(hn:¬h.1<0)(hlen:ks.length=hs.length)(hf:f.length+80*(ks.length+2)<=640):
    peelB k (packetB (base x) (wrapR pad f (wayB x (base k::k'::ks)) (h::h'::hs)))=
      (h,packetB (base (nextX x (base k))) (wrapR pad (fillS f (stopB x (base k))) (wayB (nextX x (base k)) (k'::ks)) (h'::hs)),sharedB (scale (base k) x),0):=by
  have hs':stopB x (base k)=(base x,sharedB (scale (base x) k)):=by rw[stopB,scale_key]
  have hfl:=fillS_length f (stopB x (base k)) (by omega)
  have hl:=wrapR_length pad hp (wayB x (base k::k'::ks)) (h::h'::hs) f (by rw[wayB_length];simp[hlen]) (by rw[wayB_length];simp only[List.length_cons];omega)
  have b:=wrapR_length pad hp (wayB (nextX x (base k)) (k'::ks)) (h'::hs) (fillS f (stopB x (base k))) (by rw[wayB_length];simp[hlen]) (by rw[wayB_length];simp only[List.length_cons];omega)
  have ht:=wrapR_tail pad hp (wayB (nextX x (base k)) (k'::ks)) (h'::hs) (fillS f (stopB x (base k))) (by simp[wayB]) (by rw[wayB_length];simp[hlen]) (by rw[wayB_length];simp only[List.length_cons];omega)
  have hop:opened (base x,sharedB (scale (base x) k)) (wrapR pad f (wayB x (base k::k'::ks)) (h::h'::hs)).1=layB h++(wrapR pad (fillS f (stopB x (base k))) (wayB (nextX x (base k)) (k'::ks)) (h'::hs)).2++(wrapR pad (fillS f (stopB x (base k))) (wayB (nextX x (base k)) (k'::ks)) (h'::hs)).1:=by
    show opened _ (layer (stopB x (base k)) h _ _)=_
    rw[<-hs',opened_layer _ h _ _ b.2 b.1,List.append_assoc (layB h++_)]
    congr 1
    have e:(rho (stopB x (base k)) 720).drop 640=(wrapR pad (fillS f (stopB x (base k))) (wayB (nextX x (base k)) (k'::ks)) (h'::hs)).1.drop 560:=by
      rw[hfl]at ht
      have e':∀W:List Byte,W.drop 560=(W.drop (640-(f.length+80))).drop f.length:=fun W=>by
        rw[List.drop_drop];congr 1;omega
      rw[e',ht,fillS,xorB_drop,List.drop_left,List.drop_drop,show 720-(f.length+80)+f.length=640 by omega,xorB_zeros 80 _ (by rw[List.length_drop,rho_length])]
    rw[e,List.take_append_drop]
  have hrd:readH (opened (base x,sharedB (scale (base x) k)) (wrapR pad f (wayB x (base k::k'::ks)) (h::h'::hs)).1)=h:=by
    rw[hop,List.append_assoc,readH_lay h ho]
  rw[peelB_packet k (base x) _ hk (right_base x) (base_ne_one hx) hl.1 hl.2 (by
    rw[<-hs']
    exact wrapR_mac pad (stopB (nextX x (base k)) k'::wayB _ ks) (h::h'::hs) f (stopB x (base k)) (by simp[wayB_length,hlen])) (by rw[hrd];exact hy),hrd,if_neg hn,hop,scale_key x k]
  have c:scale (base x) (blindB (base x,sharedB (scale (base k) x)))=base (nextX x (base k)):=by
    show _=scale 4 (mulS x (blindB (stopB x (base k))))
    rw[scale_mulS];rfl
  have d:(layB h++(wrapR pad (fillS f (stopB x (base k))) (wayB (nextX x (base k)) (k'::ks)) (h'::hs)).2++(wrapR pad (fillS f (stopB x (base k))) (wayB (nextX x (base k)) (k'::ks)) (h'::hs)).1).drop 80=(wrapR pad (fillS f (stopB x (base k))) (wayB (nextX x (base k)) (k'::ks)) (h'::hs)).1:=
    List.drop_left' (by rw[List.length_append,layB_length,b.2])
  have i:((layB h++(wrapR pad (fillS f (stopB x (base k))) (wayB (nextX x (base k)) (k'::ks)) (h'::hs)).2++(wrapR pad (fillS f (stopB x (base k))) (wayB (nextX x (base k)) (k'::ks)) (h'::hs)).1).drop 48).take 32=(wrapR pad (fillS f (stopB x (base k))) (wayB (nextX x (base k)) (k'::ks)) (h'::hs)).2:=by
    rw[List.append_assoc,List.drop_left' (layB_length h),List.take_left' b.2]
  rw[c,d,i]
theorem nextX_ne (x k:Nat)(hx:x%q≠0):nextX x k%q≠0:=mulS_ne hx (fromB_ne _)
theorem startX_ne (seed:List Byte):startX seed%q≠0:=fromB_ne _
end Go.Osp

namespace Go.Osp
open Go.Hsp Go.Num
def stepR (l:List Stop)(hs:List Hop)(st:List Byte×List Byte)(k:Nat):List Byte×List Byte:=
  ((if k+1=l.length then put (layer (l.getD k (0,[])) (hs.getD k noHop) st.2 st.1) (filler l)else layer (l.getD k (0,[])) (hs.getD k noHop) st.2 st.1),
   macB (l.getD k (0,[])) (if k+1=l.length then put (layer (l.getD k (0,[])) (hs.getD k noHop) st.2 st.1) (filler l)else layer (l.getD k (0,[])) (hs.getD k noHop) st.2 st.1))
def foldR (l:List Stop)(hs:List Hop)(pad:List Byte)(ks:List Nat):List Byte×List Byte:=ks.foldl (stepR l hs) (pad,zeros 32)
theorem foldR_snoc (l:List Stop)(hs:List Hop)(pad:List Byte)(ks:List Nat)(k:Nat):foldR l hs pad (ks++[k])=stepR l hs (foldR l hs pad ks) k:=by simp[foldR]
theorem filler_length (l:List Stop)(h1:1<=l.length)(h8:l.length<=8):(filler l).length=80*(l.length-1):=by
  rw[filler,fillTo_length _ _ (by simp[List.length_take];omega)];simp[List.length_take]
theorem stepR_len (l:List Stop)(hs:List Hop)(h1:1<=l.length)(h8:l.length<=8)(st:List Byte×List Byte)(k:Nat)(hr:st.1.length=640)(hm:st.2.length=32):(stepR l hs st k).1.length=640/\(stepR l hs st k).2.length=32:=by
  refine⟨?_,macB_length _ _⟩
  have b:=layer_length (l.getD k (0,[])) (hs.getD k noHop) st.2 st.1 hm hr
  have c:=filler_length l h1 h8
  simp only[stepR]
  split
  · rw[put_length _ _ (by omega),b]
  · exact b
theorem foldR_len (l:List Stop)(hs:List Hop)(pad:List Byte)(hp:pad.length=640)(h1:1<=l.length)(h8:l.length<=8)(ks:List Nat):(foldR l hs pad ks).1.length=640/\(foldR l hs pad ks).2.length=32:=by
  have:∀(ks:List Nat) (st:List Byte×List Byte),st.1.length=640->st.2.length=32->(ks.foldl (stepR l hs) st).1.length=640/\(ks.foldl (stepR l hs) st).2.length=32:=by
    intro ks
    induction ks with
    |nil=>intro st a b;exact⟨a,b⟩
    |cons k ks ih=>intro st a b;have:=stepR_len l hs h1 h8 st k a b;exact ih _ this.1 this.2
  exact this ks _ hp (zeros_length 32)
def downs (n j:Nat):List Nat:=(List.range j).map fun i=>n-1-i
theorem downs_succ (n j:Nat):downs n (j+1)=downs n j++[n-1-j]:=by simp[downs,List.range_succ]
theorem foldR_wrap (l:List Stop)(hs:List Hop)(pad:List Byte)(hl:hs.length=l.length):∀(j:Nat),1<=j->j<=l.length->foldR l hs pad (downs l.length j)=wrapR pad (fillTo [] (l.take (l.length-j))) (l.drop (l.length-j)) (hs.drop (l.length-j))
  |0,h,_=>by omega
  |1,_,h=>by
    have hlt:l.length-1<l.length:=by omega
    have b:l.length-1<hs.length:=by omega
    have c:l.drop (l.length-1)=[l.getD (l.length-1) (0,[])]:=by
      rw[List.drop_eq_getElem_cons hlt,List.drop_of_length_le (by omega),List.getD_eq_getElem?_getD,List.getElem?_eq_getElem hlt];rfl
    have d:hs.drop (l.length-1)=hs.getD (l.length-1) noHop::hs.drop (l.length-1+1):=by
      rw[List.drop_eq_getElem_cons b,List.getD_eq_getElem?_getD,List.getElem?_eq_getElem b];rfl
    rw[c,d,wrapR_one]
    show stepR l hs (pad,zeros 32) (l.length-1-0)=_
    rw[Nat.sub_zero,stepR,if_pos (by omega)]
    rfl
  |j+2,_,h=>by
    have ih:=foldR_wrap l hs pad hl (j+1) (by omega) (by omega)
    have hlt:l.length-(j+2)<l.length:=by omega
    have b:l.length-(j+2)<hs.length:=by omega
    have e:l.length-(j+2)+1=l.length-(j+1):=by omega
    have c:l.drop (l.length-(j+2))=l.getD (l.length-(j+2)) (0,[])::l.drop (l.length-(j+1)):=by
      rw[List.drop_eq_getElem_cons hlt,List.getD_eq_getElem?_getD,List.getElem?_eq_getElem hlt,e];rfl
    have d:hs.drop (l.length-(j+2))=hs.getD (l.length-(j+2)) noHop::hs.drop (l.length-(j+1)):=by
      rw[List.drop_eq_getElem_cons b,List.getD_eq_getElem?_getD,List.getElem?_eq_getElem b,e];rfl
    have f:fillTo [] (l.take (l.length-(j+1)))=fillS (fillTo [] (l.take (l.length-(j+2)))) (l.getD (l.length-(j+2)) (0,[])):=by
      rw[<-e,List.take_add_one,List.getElem?_eq_getElem hlt,fillTo_append,List.getD_eq_getElem?_getD,List.getElem?_eq_getElem hlt];rfl
    have i:∃t l',l.drop (l.length-(j+1))=t::l':=by
      have:(l.drop (l.length-(j+1))).length=j+1:=by rw[List.length_drop];omega
      cases hd:l.drop (l.length-(j+1))with
      |nil=>rw[hd]at this;simp at this
      |cons t l'=>exact⟨t,l',rfl⟩
    obtain⟨t,l',ht⟩:=i
    rw[downs_succ,foldR_snoc,ih,c,d,ht,wrapR_more,<-f,<-ht,show l.length-1-(j+1)=l.length-(j+2) by omega,stepR,if_neg (by omega)]
theorem foldR_all (l:List Stop)(hs:List Hop)(pad:List Byte)(hl:hs.length=l.length)(h1:1<=l.length):foldR l hs pad (downs l.length l.length)=wrapR pad [] l hs:=by
  have:=foldR_wrap l hs pad hl l.length h1 (Nat.le_refl _)
  rw[Nat.sub_self]at this
  exact this
end Go.Osp

namespace Go.Osp
open Go.Hsp Go.Num
def xAt':Nat->List Nat->Nat
  |x,[]=>x
  |x,k::ks=>xAt' (nextX x k) ks
theorem xAt'_snoc (x:Nat)(ks:List Nat)(k:Nat)(key:Nat)(h:ks[k]? =some key):xAt' x (ks.take (k+1))=nextX (xAt' x (ks.take k)) key:=by
  have ap:∀(l m:List Nat) (x:Nat),xAt' x (l++m)=xAt' (xAt' x l) m:=by
    intro l
    induction l with
    |nil=>intro m n;rfl
    |cons c l ih=>intro m n;exact ih m _
  rw[List.take_add_one,h,ap];rfl
theorem xAt'_ne (x:Nat)(hx:x%q≠0):∀(ks:List Nat),xAt' x ks%q≠0
  |[]=>hx
  |k::ks=>xAt'_ne (nextX x k) (nextX_ne x k hx) ks
theorem wayB_at:∀(ks:List Nat) (x k key:Nat),ks[k]? =some key->(wayB x ks)[k]? =some (stopB (xAt' x (ks.take k)) key)
  |[],_,_,_,h=>by simp at h
  |a::ks,x,0,key,h=>by simp at h;subst h;rfl
  |a::ks,x,k+1,key,h=>by
    have:=wayB_at ks (nextX x a) k key (by simpa using h)
    rw[wayB,List.getElem?_cons_succ,this];rfl
def pkt (pts:List Nat)(hs:List Hop)(seed:List Byte)(i:Nat):List Byte:=
  if i<pts.length then packetB (base (xAt' (startX seed) (pts.take i))) (wrapR (padO seed) (fillTo [] ((wayB (startX seed) pts).take i)) (wayB (xAt' (startX seed) (pts.take i)) (pts.drop i)) (hs.drop i))else[]
theorem pkt_zero (pts:List Nat)(hs:List Hop)(seed:List Byte)(h:1<=pts.length):pkt pts hs seed 0=wrapB pts hs seed:=by
  rw[pkt,if_pos (by omega)];rfl
theorem pkt_end (pts:List Nat)(hs:List Hop)(seed:List Byte)(i:Nat)(h:pts.length<=i):pkt pts hs seed i=[]:=by
  rw[pkt,if_neg (by omega)]
theorem pad_length (seed:List Byte):(padO seed).length=640:=stream_length _ _
theorem hops_at (pts:List Nat)(hs:List Hop)(hok:hopsOk pts hs=true):hs.length=pts.length/\∀i,i<hs.length->mayB (hs.getD i noHop)=true/\(((hs.getD i noHop).1<0)↔i+1=hs.length):=by
  rw[hopsOk,Bool.and_eq_true,List.all_eq_true]at hok
  refine⟨of_decide_eq_true hok.1,fun i hi=>?_⟩
  have:=hok.2 i (List.mem_range.2 hi)
  rw[Bool.and_eq_true]at this
  exact⟨this.1,decide_eq_decide.1 (of_decide_eq_true this.2)⟩
theorem pkt_length (pts:List Nat)(hs:List Hop)(seed:List Byte)(hl:hs.length=pts.length)(h8:pts.length<=8)(i:Nat)(hi:i<pts.length):(pkt pts hs seed i).length=680:=by
  rw[pkt,if_pos hi]
  have hf:=fillTo_length ((wayB (startX seed) pts).take i) [] (by rw[List.length_take,wayB_length];simp;omega)
  rw[List.length_take,wayB_length]at hf
  have:=wrapR_length (padO seed) (pad_length seed) (wayB (xAt' (startX seed) (pts.take i)) (pts.drop i)) (hs.drop i) (fillTo [] ((wayB (startX seed) pts).take i)) (by rw[wayB_length];simp[hl]) (by rw[wayB_length,hf];simp;omega)
  exact packetB_length _ _ this.1 this.2
theorem peel_at (own:List Nat)(hs:List Hop)(seed:List Byte)(hown:∀k∈own,k≠0/\k<q)(hok:hopsOk (own.map base) hs=true)(hho:∀h∈hs,HopOk h)(h8:own.length<=8)(i:Nat)(hi:i<own.length):
    peelB (own.getD i 0) (pkt (own.map base) hs seed i)=(hs.getD i noHop,pkt (own.map base) hs seed (i+1),((wayB (startX seed) (own.map base)).getD i (0,[])).2,0):=by
  obtain⟨hl,hall⟩:=hops_at _ _ hok
  rw[List.length_map]at hl
  obtain⟨hy,hnx⟩:=hall i (by omega)
  have hk:own[i]? =some (own.getD i 0):=by simp[hi,List.getD]
  have hhi:i<hs.length:=by omega
  have hh:hs[i]? =some (hs.getD i noHop):=by simp[hhi,List.getD]
  have hkm:(own.map base)[i]? =some (base (own.getD i 0)):=by rw[List.getElem?_map,hk];rfl
  have hway:=wayB_at (own.map base) (startX seed) i _ hkm
  have hwg:(wayB (startX seed) (own.map base)).getD i (0,[])=stopB (xAt' (startX seed) ((own.map base).take i)) (base (own.getD i 0)):=by rw[List.getD_eq_getElem?_getD,hway];rfl
  have hf:=fillTo_length ((wayB (startX seed) (own.map base)).take i) [] (by rw[List.length_take,wayB_length];simp;omega)
  rw[List.length_take,wayB_length,List.length_map]at hf
  have hf':(fillTo [] ((wayB (startX seed) (own.map base)).take i)).length=80*i:=by rw[hf];simp;omega
  have hx:=xAt'_ne (startX seed) (startX_ne seed) ((own.map base).take i)
  have hfs:fillTo [] ((wayB (startX seed) (own.map base)).take (i+1))=fillS (fillTo [] ((wayB (startX seed) (own.map base)).take i)) (stopB (xAt' (startX seed) ((own.map base).take i)) (base (own.getD i 0))):=by
    rw[List.take_add_one,hway,fillTo_append];rfl
  have hxs:=xAt'_snoc (startX seed) (own.map base) i _ hkm
  have hko:=hown _ (List.mem_of_getElem? hk)
  have hho':=hho _ (List.mem_of_getElem? hh)
  have hdk:(own.map base).drop i=base (own.getD i 0)::(own.map base).drop (i+1):=by
    have hlt:i<(own.map base).length:=by simpa using hi
    rw[List.drop_eq_getElem_cons hlt]
    congr 1
    rw[List.getElem?_eq_getElem hlt]at hkm
    exact Option.some.inj hkm
  have hdh:hs.drop i=hs.getD i noHop::hs.drop (i+1):=by
    rw[List.drop_eq_getElem_cons hhi]
    congr 1
    rw[List.getElem?_eq_getElem hhi]at hh
    exact Option.some.inj hh
  rw[hwg]
  generalize hgx:xAt' (startX seed) ((own.map base).take i)=x at*
  generalize hgf:fillTo [] ((wayB (startX seed) (own.map base)).take i)=f at*
  generalize own.getD i 0=k at*
  generalize hs.getD i noHop=h at*
  rw[pkt,if_pos (by simpa using hi),hgx,hgf,hdk,hdh]
  by_cases hlast:i+1=own.length
  · have c:(own.map base).drop (i+1)=[]:=List.drop_of_length_le (by simp;omega)
    have d:hs.drop (i+1)=[]:=List.drop_of_length_le (by omega)
    rw[c,d,pkt_end _ _ _ _ (by simp;omega)]
    exact peel_last (padO seed) f (pad_length seed) x k hx hko h hho' hy (hnx.2 (by omega)) (by omega)
  · have e:i+1<own.length:=by omega
    rw[pkt,if_pos (by simpa using e),hxs,hfs]
    obtain⟨k',ks',c⟩:∃k' ks',(own.map base).drop (i+1)=k'::ks':=by
      cases hd:(own.map base).drop (i+1)with
      |nil=>have:=congrArg List.length hd;simp at this;omega
      |cons a b=>exact⟨a,b,rfl⟩
    obtain⟨h',hs',d⟩:∃h' hs',hs.drop (i+1)=h'::hs':=by
      cases hd:hs.drop (i+1)with
      |nil=>have:=congrArg List.length hd;simp at this;omega
      |cons a b=>exact⟨a,b,rfl⟩
    have j:ks'.length+1=own.length-(i+1):=by have:=congrArg List.length c;simp at this;omega
    have l:hs'.length+1=hs.length-(i+1):=by have:=congrArg List.length d;simp at this;omega
    rw[c,d]
    exact peel_more (padO seed) f (pad_length seed) x k hx hko h h' ks' k' hs' hho' hy (fun hn=>hlast (by have:=hnx.1 hn;omega)) (by omega) (by omega)
theorem base_keyOk {k:Nat}(h:k%q≠0):keyOk (base k)=true:=by
  rw[keyOk,right_base k,decide_eq_true (base_ne_one h)];rfl
theorem keysOk_base (own:List Nat)(hown:∀k∈own,k≠0/\k<q)(h1:1<=own.length)(h8:own.length<=8):keysOk (own.map base)=true:=by
  rw[keysOk,decide_eq_true (by simpa using h1),decide_eq_true (by simpa using h8),Bool.true_and,Bool.true_and,List.all_eq_true]
  intro p hp
  obtain⟨k,hk,rfl⟩:=List.mem_map.1 hp
  have:=hown k hk
  exact base_keyOk (by rw[Nat.mod_eq_of_lt this.2];exact this.1)
theorem base_lt (k:Nat):base k<18446744073709551616:=Nat.lt_trans ((right_iff _).1 (right_base k)).2.1 M_lt
end Go.Osp
namespace Go.Hsp
end Go.Hsp

namespace Go.Osp
open Go.Hsp Go.Num
def sumS (l:List Nat):Nat:=l.foldl addS 0
theorem addS_lt (a b:Nat):addS a b<q:=Nat.mod_lt _ q_pos
theorem sumS_snoc (l:List Nat)(k x:Nat)(h:l[k]? =some x):sumS (l.take (k+1))=addS (sumS (l.take k)) x:=by
  rw[List.take_add_one,h];simp[sumS]
def fromP (p:Nat):List Nat->List Nat
  |[]=>[p]
  |b::l=>addP ((fromP p l).headD 0) (base b)::fromP p l
def tP (s:Nat):List Nat->List Nat
  |[]=>[s]
  |b::l=>addS ((tP s l).headD 0) b::tP s l
theorem fromP_length (p:Nat):∀l,(fromP p l).length=l.length+1
  |[]=>rfl
  |b::l=>by rw[fromP,List.length_cons,fromP_length p l,List.length_cons]
theorem tP_length (s:Nat):∀l,(tP s l).length=l.length+1
  |[]=>rfl
  |b::l=>by rw[tP,List.length_cons,tP_length s l,List.length_cons]
theorem fromP_base (s:Nat):∀l,fromP (base s) l=(tP s l).map base
  |[]=>rfl
  |b::l=>by
    rw[fromP,tP,List.map_cons,fromP_base s l]
    congr 1
    have:=tP_length s l
    cases h:tP s l with
    |nil=>rw[h]at this;simp at this
    |cons t r=>exact addP_base t b
theorem headD_getD {l:List Nat}:l.headD 0=l.getD 0 0:=by cases l<;>rfl
theorem fromP_at (p:Nat):∀(l:List Nat) (i:Nat),i<l.length->(fromP p l).getD i 0=addP ((fromP p l).getD (i+1) 0) (base (l.getD i 0))
  |[],i,h=>by simp at h
  |b::l,0,_=>by rw[fromP,headD_getD];rfl
  |b::l,i+1,h=>by
    have:=fromP_at p l i (by simpa using h)
    rw[fromP];simpa using this
theorem tP_last (s:Nat):∀l:List Nat,(tP s l).getD l.length 0=s
  |[]=>rfl
  |b::l=>by rw[tP,List.length_cons];simpa using tP_last s l
def blindsP (seed:List Byte)(n:Nat):List Nat:=(List.range n).map fun i=>fromB (tag nBlind [seed,[BitVec.ofNat 8 i]])
theorem blindsP_length (seed:List Byte)(n:Nat):(blindsP seed n).length=n:=by simp[blindsP]
theorem blindsP_succ (seed:List Byte)(n:Nat):blindsP seed (n+1)=blindsP seed n++[fromB (tag nBlind [seed,[BitVec.ofNat 8 n]])]:=by simp[blindsP,List.range_succ]
theorem blindsP_lt (seed:List Byte)(n:Nat):∀b∈blindsP seed n,b<q:=fun b hb=>by
  obtain⟨i,_,rfl⟩:=List.mem_map.1 hb
  exact fromB_lt _
theorem fill_back (p:Nat)(l:List Nat)(k:Nat)(hk:k<l.length):
    (List.replicate (l.length-k) 0++fromP p (l.drop (l.length-k))).set (l.length-1-k) (addP ((List.replicate (l.length-k) 0++fromP p (l.drop (l.length-k))).getD (l.length-1-k+1) 0) (base (l.getD (l.length-1-k) 0)))=
      List.replicate (l.length-(k+1)) 0++fromP p (l.drop (l.length-(k+1))):=by
  have b:l.length-k=(l.length-(k+1))+1:=by omega
  have c:l.length-1-k=l.length-(k+1):=by omega
  have d:l.drop (l.length-(k+1))=l.getD (l.length-(k+1)) 0::l.drop (l.length-k):=by
    rw[List.drop_eq_getElem_cons (by omega),b]
    congr 1
    simp[List.getD,show l.length-(k+1)<l.length by omega]
  rw[d,fromP,headD_getD,c]
  generalize fromP p (l.drop (l.length-k))=r
  rw[b,List.replicate_succ',List.append_assoc]
  have hr:(List.replicate (l.length-(k+1)) 0++([0]++r)).getD (l.length-(k+1)+1) 0=r.getD 0 0:=by
    rw[List.getD_eq_getElem?_getD,List.getElem?_append_right (by simp)]
    simp[List.getD]
  rw[hr,List.set_append_right _ _ (by simp)]
  simp
theorem getD_lt {l:List Nat}{b:Nat}(h:∀x∈l,x<b)(hb:0<b)(i:Nat):l.getD i 0<b:=by
  rw[List.getD_eq_getElem?_getD]
  cases e:l[i]? with
  |none=>exact hb
  |some x=>exact h x (List.mem_of_getElem? e)
end Go.Osp

namespace Go.Gsp
open Go.Osp
structure Pol where
  b:Int
  p:Int
  d:Int
  l:Int
  m:Int
deriving DecidableEq
structure Edge where
  f:Int
  t:Int
  c:Int
  r:Int
  pol:Pol
deriving DecidableEq
def noPol:Pol:=⟨0,0,0,0,0⟩
def noEdge:Edge:=⟨0,0,0,0,noPol⟩
def inB (n lo hi:Int):Bool:=decide (lo<=n/\n<=hi)
def polOk (p:Pol):Bool:=inB p.b 0 1125899906842624&&inB p.l 0 p.m&&inB p.m 0 1125899906842624&&inB p.p 0 1000000&&inB p.d 0 1048576
def edgeOk (e:Edge):Bool:=inB e.f 0 11&&inB e.t 0 11&&decide (e.f≠e.t)&&inB e.c 0 39&&inB e.r 1 1125899906842624&&polOk e.pol
def coinB (a:Int):Bool:=inB a 0 1125899906842624
def addC (a b:Int):Int×Bool:=if coinB a&&coinB b&&decide (a<=1125899906842624-b)then(a+b,true)else(0,false)
def partC (a num:Int):Int×Bool:=if coinB a&&decide (0<=num)&&decide (a*num/1000000<=1125899906842624)then(a*num/1000000,true)else(0,false)
def feeG (p:Pol)(a:Int):Int×Bool:=if(partC a p.p).2&&polOk p then addC p.b (partC a p.p).1 else(0,false)
def cmpI (a b:Int):Int:=if a<b then-1 else if b<a then 1 else 0
def ordE (a b:Edge):Int:=if cmpI a.c b.c≠0 then cmpI a.c b.c else cmpI a.f b.f
def RightAt (l:List Edge)(i:Nat):Prop:=
  edgeOk (l.getD i noEdge)=true/\(0<i->ordE (l.getD (i-1) noEdge) (l.getD i noEdge)<0)/\
    ((0<i/\(l.getD (i-1) noEdge).c=(l.getD i noEdge).c)->¬(1<i/\(l.getD (i-2) noEdge).c=(l.getD i noEdge).c)/\(l.getD (i-1) noEdge).f=(l.getD i noEdge).t/\(l.getD (i-1) noEdge).t=(l.getD i noEdge).f/\(l.getD (i-1) noEdge).r=(l.getD i noEdge).r)
instance (l : List Edge) (i : Nat) : Decidable (RightAt l i) := by unfold RightAt; infer_instance
def RightP (l:List Edge):Prop:=∀i,i<l.length->RightAt l i
instance (l : List Edge) : Decidable (RightP l) := by unfold RightP; infer_instance
def rightG (l:List Edge):Bool:=decide (RightP l)
def WayAt (l:List Edge)(i:Nat):Prop:=edgeOk (l.getD i noEdge)=true/\(0<i->(l.getD (i-1) noEdge).t=(l.getD i noEdge).f)/\∀k,k<=i->(l.getD k noEdge).f≠(l.getD i noEdge).t
instance (l : List Edge) (i : Nat) : Decidable (WayAt l i) := by unfold WayAt; infer_instance
def WayP (l:List Edge):Prop:=(1<=l.length/\l.length<=8)/\∀i,i<l.length->WayAt l i
instance (l : List Edge) : Decidable (WayP l) := by unfold WayP; infer_instance
def wayG (l:List Edge):Bool:=decide (WayP l)
def nextC (e:Edge)(a x:Int):Option (Int×Int):=if(feeG e.pol a).2&&(addC a (feeG e.pol a).1).2 then some (a+(feeG e.pol a).1,x+e.pol.d)else none
def costF (a x:Int):List Edge->Except Int (Option (Int×Int)×List (Int×Int))
  |[]=> .ok (some (a,x),[])
  |e::t=>match costF a x t with
    | .error er=> .error er
    | .ok (none,_)=> .error 6
    | .ok (some (a1,x1),l)=>if inB a1 e.pol.l (min e.pol.m e.r)=false then .error 6 else if 1048576<x1 then .error 16 else .ok (nextC e a1 x1,(a1,x1)::l)
def costG (w:List Edge)(a x:Int):List Int×List Int×Int:=
  if wayG w=false then([],[],19)else if inB a 1 1125899906842624=false\/inB x 1 1048576=false then([],[],1)
  else match costF a x w with
    | .error er=>([],[],er)
    | .ok (_,l)=>(l.map Prod.fst,l.map Prod.snd,0)
def hopAt (w:List Edge)(sent till:List Int)(pts bl:List Nat)(i:Nat):Hop:=((w.getD (i+1) noEdge).t,(w.getD (i+1) noEdge).c,sent.getD (i+1) 0,till.getD (i+1) 0,pts.getD (i+1) 0,bl.getD i 0)
def hopsL (w:List Edge)(sent till:List Int)(pts bl:List Nat)(a x:Int):List Hop:=
  (List.range (w.length-1)).map (hopAt w sent till pts bl)++[(-1,0,a,x,pts.getD (w.length-1) 0,0)]
def hopsG (w:List Edge)(a x:Int)(pts bl:List Nat):List Hop×Int:=
  if(costG w a x).2.2≠0 then([],(costG w a x).2.2)else if pts.length≠w.length\/bl.length≠w.length-1 then([],1)
  else(hopsL w (costG w a x).1 (costG w a x).2.1 pts bl a x,0)
theorem inB_T {n lo hi:Int}(h:inB n lo hi=true):lo<=n/\n<=hi:=of_decide_eq_true h
theorem inB_F {n lo hi:Int}(h:inB n lo hi=false):¬(lo<=n/\n<=hi):=of_decide_eq_false h
theorem polOk_T {p:Pol}(h:polOk p=true):(0<=p.b/\p.b<=1125899906842624)/\(0<=p.l/\p.l<=p.m)/\(0<=p.m/\p.m<=1125899906842624)/\(0<=p.p/\p.p<=1000000)/\0<=p.d/\p.d<=1048576:=by
  simp only[polOk,Bool.and_eq_true]at h
  exact⟨inB_T h.1.1.1.1,inB_T h.1.1.1.2,inB_T h.1.1.2,inB_T h.1.2,inB_T h.2⟩
theorem edgeOk_T {e:Edge}(h:edgeOk e=true):(0<=e.f/\e.f<=11)/\(0<=e.t/\e.t<=11)/\e.f≠e.t/\(0<=e.c/\e.c<=39)/\(1<=e.r/\e.r<=1125899906842624)/\polOk e.pol=true:=by
  simp only[edgeOk,Bool.and_eq_true,decide_eq_true_eq]at h
  exact⟨inB_T h.1.1.1.1.1,inB_T h.1.1.1.1.2,h.1.1.1.2,inB_T h.1.1.2,inB_T h.1.2,h.2⟩
def PolI (p:Pol):Prop:=(-9223372036854775808<=p.b/\p.b<=9223372036854775807)/\(-9223372036854775808<=p.p/\p.p<=9223372036854775807)/\(-9223372036854775808<=p.d/\p.d<=9223372036854775807)/\(-9223372036854775808<=p.l/\p.l<=9223372036854775807)/\(-9223372036854775808<=p.m/\p.m<=9223372036854775807)
def EdgeI (e:Edge):Prop:=(-9223372036854775808<=e.f/\e.f<=9223372036854775807)/\(-9223372036854775808<=e.t/\e.t<=9223372036854775807)/\(-9223372036854775808<=e.c/\e.c<=9223372036854775807)/\(-9223372036854775808<=e.r/\e.r<=9223372036854775807)/\PolI e.pol
end Go.Gsp

namespace Go.Gsp
open Go.Osp
variable {a x am ex er:Int}{l:List (Int×Int)}{xs:List Edge}{j:Nat}
theorem drop_pred (xs:List Edge)(j:Nat)(h0:0<j)(hj:j<=xs.length):xs.drop (j-1)=xs.getD (j-1) noEdge::xs.drop j:=by
  rw[List.drop_eq_getElem_cons (by omega),show j-1+1=j by omega]
  simp[List.getD,show j-1<xs.length by omega]
theorem costF_err:∀(xs:List Edge) (j:Nat),costF a x (xs.drop j)= .error er->costF a x xs= .error er
  |_,0,h=>h
  |[],j+1,h=>by simpa using h
  |e::xs,j+1,h=>by
    have:=costF_err xs j (by simpa using h)
    simp[costF,this]
theorem costF_six (h0:0<j)(hj:j<=xs.length)(h:costF a x (xs.drop j)= .ok (some (am,ex),l))(h1:¬inB am (xs.getD (j-1) noEdge).pol.l (min (xs.getD (j-1) noEdge).pol.m (xs.getD (j-1) noEdge).r)=true):costF a x xs= .error 6:=by
  refine costF_err xs (j-1) ?_
  rw[drop_pred xs j h0 hj,costF,h]
  simp only[Bool.eq_false_iff.2 h1,if_true]
theorem costF_late (h0:0<j)(hj:j<=xs.length)(h:costF a x (xs.drop j)= .ok (some (am,ex),l))(h1:inB am (xs.getD (j-1) noEdge).pol.l (min (xs.getD (j-1) noEdge).pol.m (xs.getD (j-1) noEdge).r)=true)(h2:1048576<ex):costF a x xs= .error 16:=by
  refine costF_err xs (j-1) ?_
  rw[drop_pred xs j h0 hj,costF,h]
  simp[-List.getD_eq_getElem?_getD,h1,h2]
theorem costF_step (h0:0<j)(hj:j<=xs.length)(h:costF a x (xs.drop j)= .ok (some (am,ex),l))(h1:inB am (xs.getD (j-1) noEdge).pol.l (min (xs.getD (j-1) noEdge).pol.m (xs.getD (j-1) noEdge).r)=true)(h2:¬1048576<ex):
    costF a x (xs.drop (j-1))= .ok (nextC (xs.getD (j-1) noEdge) am ex,(am,ex)::l):=by
  rw[drop_pred xs j h0 hj,costF,h]
  simp[-List.getD_eq_getElem?_getD,h1,h2]
theorem costF_none (h0:0<j)(hj:j<=xs.length)(h:costF a x (xs.drop j)= .ok (none,l)):costF a x xs= .error 6:=by
  refine costF_err xs (j-1) ?_
  rw[drop_pred xs j h0 hj,costF,h]
theorem nextC_none {e:Edge}(h:¬(feeG e.pol am).2=true\/¬(addC am (feeG e.pol am).1).2=true):nextC e am ex=none:=by
  unfold nextC
  rw[if_neg]
  rw[Bool.and_eq_true]
  rintro⟨b,c⟩
  rcases h with h|h<;>contradiction
theorem addC_val {a b:Int}(h:(addC a b).2=true):(addC a b).1=a+b/\0<=a+b/\a+b<=1125899906842624:=by
  unfold addC at*
  split at h
  · rename_i hc
    simp only[coinB,Bool.and_eq_true,decide_eq_true_eq]at hc
    have c:=inB_T hc.1.1
    have d:=inB_T hc.1.2
    exact⟨by rw[if_pos (by simp[coinB,hc])],by omega,by omega⟩
  · cases h
theorem nextC_some {e:Edge}(h1:(feeG e.pol am).2=true)(h2:(addC am (feeG e.pol am).1).2=true):nextC e am ex=some ((addC am (feeG e.pol am).1).1,ex+e.pol.d):=by
  unfold nextC
  rw[if_pos (by simp[h1,h2]),(addC_val h2).1]
theorem costG_way {xs:List Edge}{a x:Int}(h:¬wayG xs=true):costG xs a x=([],[],19):=by unfold costG;rw[if_pos (by simpa using h)]
theorem costG_arg {xs:List Edge}{a x:Int}(h:wayG xs=true)(h1:¬inB a 1 1125899906842624=true\/¬inB x 1 1048576=true):costG xs a x=([],[],1):=by
  unfold costG
  rw[if_neg (by simp[h]),if_pos (by simpa using h1)]
theorem costG_er {xs:List Edge}{a x er:Int}(h:wayG xs=true)(h1:inB a 1 1125899906842624=true)(h2:inB x 1 1048576=true)(h3:costF a x xs= .error er):costG xs a x=([],[],er):=by
  unfold costG
  rw[if_neg (by simp[h]),if_neg (by simp[h1,h2]),h3]
theorem costG_ok {xs:List Edge}{a x:Int}{nx:Option (Int×Int)}{l:List (Int×Int)}(h:wayG xs=true)(h1:inB a 1 1125899906842624=true)(h2:inB x 1 1048576=true)(h3:costF a x xs= .ok (nx,l)):costG xs a x=(l.map Prod.fst,l.map Prod.snd,0):=by
  unfold costG
  rw[if_neg (by simp[h]),if_neg (by simp[h1,h2]),h3]
theorem rep_set (l:List Int)(v:Int)(j:Nat)(h:0<j):(List.replicate j 0++l).set (j-1) v=List.replicate (j-1) 0++v::l:=by
  rw[List.set_append_left _ _ (by simp;omega)]
  obtain⟨k,rfl⟩:∃k,j=k+1:=⟨j-1,by omega⟩
  rw[Nat.add_sub_cancel,List.replicate_succ',List.set_append_right _ _ (by simp)]
  simp
theorem polI_ok {p:Pol}(h:polOk p=true):PolI p:=by
  have:=polOk_T h
  refine⟨⟨?_,?_⟩,⟨?_,?_⟩,⟨?_,?_⟩,⟨?_,?_⟩,⟨?_,?_⟩⟩<;>omega
theorem costF_len:∀(w:List Edge) (n:Option (Int×Int)) (l:List (Int×Int)),costF a x w= .ok (n,l)->l.length=w.length
  |[],n,l,h=>by simp[costF]at h;rw[h.2];rfl
  |e::t,n,l,h=>by
    rw[costF]at h
    split at h
    · cases h
    · cases h
    · rename_i a1 x1 l1 heq
      have ih:=costF_len t _ _ heq
      split at h
      · cases h
      · split at h
        · cases h
        · injection h with h
          injection h with _ h
          rw[<-h,List.length_cons,List.length_cons,ih]
theorem costG_inv {w:List Edge}{a x:Int}(h:(costG w a x).2.2=0):wayG w=true/\inB a 1 1125899906842624=true/\inB x 1 1048576=true/\∃nx l,costF a x w= .ok (nx,l)/\costG w a x=(l.map Prod.fst,l.map Prod.snd,0)/\l.length=w.length:=by
  by_cases b:wayG w=true
  · by_cases c:inB a 1 1125899906842624=true
    · by_cases d:inB x 1 1048576=true
      · refine⟨b,c,d,?_⟩
        cases hf:costF a x w with
        |error er=>
          have he:=costG_er b c d hf
          rw[he]at h
          have hne:∀(w:List Edge) (er:Int),costF a x w= .error er->er=6\/er=16:=by
            intro w
            induction w with
            |nil=>intro er h;simp[costF]at h
            |cons e t ih=>
              intro er h
              rw[costF]at h
              split at h
              · rename_i heq;injection h with h;exact ih er (by rw[heq,h])
              · injection h with h;exact .inl h.symm
              · split at h
                · injection h with h;exact .inl h.symm
                · split at h
                  · injection h with h;exact .inr h.symm
                  · cases h
          have:=hne w er hf
          simp at h
          omega
        |ok p=>obtain⟨nx,l⟩:=p;exact⟨nx,l,rfl,costG_ok b c d hf,costF_len w nx l hf⟩
      · rw[costG_arg b (.inr d)]at h;simp at h
    · rw[costG_arg b (.inl c)]at h;simp at h
  · rw[costG_way b]at h;simp at h
theorem costG_lens {w:List Edge}{a x:Int}(h:(costG w a x).2.2=0):(costG w a x).1.length=w.length/\(costG w a x).2.1.length=w.length:=by
  obtain⟨_,_,_,nx,l,_,b,c⟩:=costG_inv h
  rw[b];simp[c]
theorem wayG_at {xs:List Edge}(h:wayG xs=true){i:Nat}(hi:i<xs.length):WayAt xs i:=(of_decide_eq_true h:WayP xs).2 i hi
theorem wayG_len {xs:List Edge}(h:wayG xs=true):1<=xs.length/\xs.length<=8:=(of_decide_eq_true h:WayP xs).1
end Go.Gsp
namespace Go.Gsp
end Go.Gsp
namespace Go.Gsp
variable {a x:Int}
theorem costF_at:∀(xs:List Edge) (nx:Option (Int×Int)) (l:List (Int×Int)),costF a x xs= .ok (nx,l)->
    (∀i,i<xs.length->inB (l.getD i (0,0)).1 (xs.getD i noEdge).pol.l (min (xs.getD i noEdge).pol.m (xs.getD i noEdge).r)=true/\¬1048576<(l.getD i (0,0)).2)/\
    (∀i,i+1<xs.length->nextC (xs.getD (i+1) noEdge) (l.getD (i+1) (0,0)).1 (l.getD (i+1) (0,0)).2=some (l.getD i (0,0)))/\
    (0<xs.length->l.getD (xs.length-1) (0,0)=(a,x))/\nx=(if xs.length=0 then some (a,x)else nextC (xs.getD 0 noEdge) (l.getD 0 (0,0)).1 (l.getD 0 (0,0)).2)
  |[],nx,l,h=>by
    simp[costF]at h
    obtain⟨rfl,rfl⟩:=h
    exact⟨fun i hi=>absurd hi (Nat.not_lt_zero _),fun i hi=>absurd hi (Nat.not_lt_zero _),fun h=>absurd h (Nat.lt_irrefl _),rfl⟩
  |e::t,nx,l,h=>by
    rw[costF]at h
    split at h
    · cases h
    · cases h
    · rename_i a1 x1 l1 heq
      obtain⟨c,d,f,b⟩:=costF_at t _ _ heq
      split at h
      · cases h
      · rename_i hin
        split at h
        · cases h
        · rename_i hx
          injection h with h
          injection h with hn hl
          subst hl
          refine⟨?_,?_,?_,?_⟩
          · intro i hi
            cases i with
            |zero=>exact⟨by simpa using hin,hx⟩
            |succ i=>have:=c i (by simpa using hi);simpa using this
          · intro i hi
            cases i with
            |zero=>
              have ht:0<t.length:=by simpa using hi
              rw[if_neg (by omega)]at b
              simp only[List.getD_cons_succ,List.getD_cons_zero]at*
              rw[<-b]
            |succ i=>have:=d i (by simpa using hi);simpa using this
          · intro _
            cases t with
            |nil=>simp at b;obtain⟨rfl,rfl⟩:=b;rfl
            |cons e2 t2=>have:=f (by simp);simpa using this
          · rw[if_neg (by simp)];exact hn.symm
theorem nextC_inv {e:Edge}{am ex:Int}{p:Int×Int}(h:nextC e am ex=some p):(feeG e.pol am).2=true/\(addC am (feeG e.pol am).1).2=true/\p=(am+(feeG e.pol am).1,ex+e.pol.d):=by
  unfold nextC at h
  split at h
  · rename_i hc
    rw[Bool.and_eq_true]at hc
    injection h with h
    exact⟨hc.1,hc.2,h.symm⟩
  · cases h
structure Costs (w:List Edge)(a x:Int)(S T:List Int):Prop where
  way:wayG w=true
  amt:1<=a/\a<=1125899906842624
  exp:1<=x/\x<=1048576
  lenS:S.length=w.length
  lenT:T.length=w.length
  len:1<=w.length/\w.length<=8
  room:∀i,i<w.length->((w.getD i noEdge).pol.l<=S.getD i 0/\S.getD i 0<=(w.getD i noEdge).pol.m/\S.getD i 0<=(w.getD i noEdge).r)/\T.getD i 0<=1048576
  endS:S.getD (w.length-1) 0=a
  endT:T.getD (w.length-1) 0=x
  step:∀i,i+1<w.length->(feeG (w.getD (i+1) noEdge).pol (S.getD (i+1) 0)).2=true/\(addC (S.getD (i+1) 0) (feeG (w.getD (i+1) noEdge).pol (S.getD (i+1) 0)).1).2=true/\S.getD i 0=S.getD (i+1) 0+(feeG (w.getD (i+1) noEdge).pol (S.getD (i+1) 0)).1/\T.getD i 0=T.getD (i+1) 0+(w.getD (i+1) noEdge).pol.d
theorem map_getD {α β:Type}(f:α->β)(l:List α)(i:Nat)(z:α):(l.map f).getD i (f z)=f (l.getD i z):=by
  simp only[List.getD,List.getElem?_map]
  cases l[i]? <;>rfl
theorem costs_of {w:List Edge}(h:(costG w a x).2.2=0):Costs w a x (costG w a x).1 (costG w a x).2.1:=by
  obtain⟨hw,ha,hx,nx,l,hF,hC,hl⟩:=costG_inv h
  obtain⟨k,m,e,n⟩:=costF_at w nx l hF
  have hwl:=wayG_len hw
  rw[hC]
  have b:∀i,(l.map Prod.fst).getD i 0=(l.getD i (0,0)).1:=fun i=>map_getD Prod.fst l i (0,0)
  have c:∀i,(l.map Prod.snd).getD i 0=(l.getD i (0,0)).2:=fun i=>map_getD Prod.snd l i (0,0)
  refine⟨hw,inB_T ha,inB_T hx,by simp[hl],by simp[hl],hwl,?_,?_,?_,?_⟩
  · intro i hi
    obtain⟨d,f⟩:=k i hi
    have:=inB_T d
    show(_<=(l.map Prod.fst).getD i 0/\(l.map Prod.fst).getD i 0<=_/\(l.map Prod.fst).getD i 0<=_)/\(l.map Prod.snd).getD i 0<=_
    rw[b,c]
    omega
  · show(l.map Prod.fst).getD _ 0=a
    rw[b,e (by omega)]
  · show(l.map Prod.snd).getD _ 0=x
    rw[c,e (by omega)]
  · intro i hi
    obtain⟨d,f,j⟩:=nextC_inv (m i hi)
    show(feeG _ ((l.map Prod.fst).getD _ 0)).2=true/\(addC ((l.map Prod.fst).getD _ 0) (feeG _ ((l.map Prod.fst).getD _ 0)).1).2=true/\(l.map Prod.fst).getD _ 0=(l.map Prod.fst).getD _ 0+(feeG _ ((l.map Prod.fst).getD _ 0)).1/\(l.map Prod.snd).getD _ 0=(l.map Prod.snd).getD _ 0+_
    rw[b,c,b,c]
    exact⟨d,f,by rw[j],by rw[j]⟩
theorem feeG_bound (p:Pol)(am:Int):0<=(feeG p am).1/\(feeG p am).1<=1125899906842624:=by
  unfold feeG
  split
  · unfold addC
    split
    · rename_i hc
      simp only[coinB,Bool.and_eq_true,decide_eq_true_eq]at hc
      have b:=inB_T hc.1.1
      have c:=inB_T hc.1.2
      show 0<=_+_/\_+_<=_
      omega
    · show(0:Int)<=0/\(0:Int)<=_
      omega
  · show(0:Int)<=0/\(0:Int)<=_
    omega
end Go.Gsp
namespace Go.Gsp
theorem getD_drop' (xs:List Edge)(k i:Nat):(xs.drop k).getD i noEdge=xs.getD (k+i) noEdge:=by simp[List.getD,List.getElem?_drop]
theorem way_drop {xs:List Edge}{k:Nat}(h:wayG xs=true)(hk:k<xs.length):wayG (xs.drop k)=true:=by
  have hl:=wayG_len h
  refine decide_eq_true ⟨by rw[List.length_drop];omega,fun i hi=>?_⟩
  rw[List.length_drop]at hi
  obtain⟨b,c,d⟩:=wayG_at h (i:=k+i) (by omega)
  refine⟨by rw[getD_drop'];exact b,fun e=>?_,fun q hq=>?_⟩
  · rw[getD_drop',getD_drop',show k+(i-1)=k+i-1 by omega];exact c (by omega)
  · rw[getD_drop',getD_drop'];exact d (k+q) (by omega)
theorem way_once {xs:List Edge}(h:wayG xs=true){i j:Nat}(hji:j<i)(hi:i<xs.length):(xs.getD j noEdge).f≠(xs.getD i noEdge).f/\(xs.getD j noEdge).t≠(xs.getD i noEdge).t/\(xs.getD j noEdge).f≠(xs.getD i noEdge).t:=by
  have hf:∀i,0<i->i<xs.length->(xs.getD (i-1) noEdge).t=(xs.getD i noEdge).f:=fun i c hi=>(wayG_at h hi).2.1 c
  have hn:∀i k,i<xs.length->k<=i->(xs.getD k noEdge).f≠(xs.getD i noEdge).t:=fun i k hi hk=>(wayG_at h hi).2.2 k hk
  refine⟨fun he=>?_,fun he=>?_,hn i j hi (by omega)⟩
  · have b:=hf i (by omega) hi
    exact hn (i-1) j (by omega) (by omega) (by rw[he,b])
  · have b:=hf (j+1) (by omega) (by omega)
    rw[show j+1-1=j by omega]at b
    exact hn i (j+1) hi (by omega) (by rw[<-b,he])
variable {a x:Int}
theorem costF_drop:∀(xs:List Edge) (k:Nat) (nx:Option (Int×Int)) (l:List (Int×Int)),costF a x xs= .ok (nx,l)->∃n2,costF a x (xs.drop k)= .ok (n2,l.drop k)
  |xs,0,nx,l,h=>⟨nx,h⟩
  |[],k+1,nx,l,h=>by
    have:l=[]:=by simp[costF]at h;exact h.2
    subst this
    exact⟨nx,by simpa using h⟩
  |e::t,k+1,nx,l,h=>by
    rw[costF]at h
    split at h
    · cases h
    · cases h
    · rename_i a1 x1 l1 heq
      split at h
      · cases h
      · split at h
        · cases h
        · injection h with h
          injection h with _ hl
          subst hl
          simpa using costF_drop t k _ _ heq
theorem costG_drop {w:List Edge}(h:(costG w a x).2.2=0){k:Nat}(hk:k<w.length):costG (w.drop k) a x=((costG w a x).1.drop k,(costG w a x).2.1.drop k,0):=by
  obtain⟨hw,ha,hx,nx,l,hF,hC,hl⟩:=costG_inv h
  obtain⟨c,b⟩:=costF_drop w k nx l hF
  rw[costG_ok (way_drop hw hk) ha hx b,hC]
  simp[List.map_drop]
theorem Costs.ge {w:List Edge}{S T:List Int}(h:Costs w a x S T):∀d i,i+d+1=w.length->a<=S.getD i 0/\x<=T.getD i 0:=by
  intro d
  induction d with
  |zero=>intro i hi;have b:=h.endS;have c:=h.endT;rw[show w.length-1=i by omega]at b c;omega
  |succ d ih=>
    intro i hi
    have b:=ih (i+1) (by omega)
    obtain⟨e,f,j,k⟩:=h.step i (by omega)
    have hf:=feeG_bound (w.getD (i+1) noEdge).pol (S.getD (i+1) 0)
    have hok:=edgeOk_T (wayG_at h.way (i:=i+1) (by omega)).1
    have hp:=polOk_T hok.2.2.2.2.2
    omega
theorem Costs.inS {w:List Edge}{S T:List Int}(h:Costs w a x S T){i:Nat}(hi:i<w.length):inB (S.getD i 0) 1 1125899906842624=true/\inB (T.getD i 0) 1 1048576=true:=by
  have b:=h.ge (w.length-1-i) i (by omega)
  have c:=h.room i hi
  have hok:=edgeOk_T (wayG_at h.way hi).1
  have:=h.amt
  have:=h.exp
  exact⟨decide_eq_true (by omega),decide_eq_true (by omega)⟩
end Go.Gsp
namespace Go.Gsp
open Go.Osp Go.Num
structure Cnd where
  fr:Int
  id:Int
  am:Int
  pt:Nat
  ex:Int
deriving DecidableEq
def noCnd:Cnd:=⟨0,0,0,0,0⟩
structure Bnd where
  jam:Int
  bar:Int
  nap:Int
deriving DecidableEq
def passedB (c:Cnd):Bool:=inB c.am 1 1125899906842624&&inB c.ex 1 1048576&&decide (c.pt≠1)&&right c.pt
def worldB (h:Int)(b:Bnd):Bool:=inB h 0 1048576&&inB b.jam 0 1000&&inB b.bar 0 1000&&inB b.nap 0 1000
def mayE (x y:Cnd)(p:Pol)(h:Int)(b:Bnd):Int:=
  if polOk p=true/\passedB x=true/\passedB y=true/\worldB h b=true then
    if inB y.am p.l p.m=true then
      if(feeG p y.am).2=true/\¬x.am-y.am<(feeG p y.am).1 then
        if¬x.ex-y.ex<p.d/\¬y.ex-h<=b.nap then 0 else 16
      else 13
    else 6
  else 1
def toldC (h:Hop):Cnd:=⟨0,0,h.2.2.1,h.2.2.2.2.1,h.2.2.2.1⟩
def ownP (h:Hop):Nat:=addP h.2.2.2.2.1 (base h.2.2.2.2.2)
def nextE (h:Hop)(x:Cnd)(p:Pol)(ht:Int)(b:Bnd):Cnd×Int:=
  if inB h.1 0 11=true/\inB h.2.1 0 39=true/\mayE x (toldC h) p ht b≠1 then
    if x.pt=ownP h then(if mayE x (toldC h) p ht b=0 then(toldC h,0)else(noCnd,mayE x (toldC h) p ht b))else(noCnd,23)
  else(noCnd,1)
def lastE (h:Hop)(x:Cnd)(ht:Int)(b:Bnd):Int:=
  if h.1= -1/\passedB (toldC h)=true/\passedB x=true/\worldB ht b=true then
    if x.pt=ownP h then(if x.am<h.2.2.1 then 13 else if x.ex<h.2.2.2.1\/x.ex-ht<=b.nap then 16 else 0)else 23
  else 1
theorem passedB_T {c:Cnd}(h:passedB c=true):(1<=c.am/\c.am<=1125899906842624)/\(1<=c.ex/\c.ex<=1048576)/\c.pt≠1/\right c.pt=true:=by
  simp only[passedB,Bool.and_eq_true,decide_eq_true_eq]at h
  exact⟨inB_T h.1.1.1,inB_T h.1.1.2,h.1.2,h.2⟩
theorem worldB_T {h:Int}{b:Bnd}(w:worldB h b=true):(0<=h/\h<=1048576)/\(0<=b.jam/\b.jam<=1000)/\(0<=b.bar/\b.bar<=1000)/\0<=b.nap/\b.nap<=1000:=by
  simp only[worldB,Bool.and_eq_true]at w
  exact⟨inB_T w.1.1.1,inB_T w.1.1.2,inB_T w.1.2,inB_T w.2⟩
theorem mayE_in {x y:Cnd}{p:Pol}{h:Int}{b:Bnd}(hm:mayE x y p h b≠1):polOk p=true/\passedB x=true/\passedB y=true/\worldB h b=true:=by
  unfold mayE at hm
  split at hm
  · assumption
  · exact absurd rfl hm
end Go.Gsp

namespace Go.Osp
open Go.Hsp Go.Num
def nPart:List Byte:=[112,97,114,116]
def nSplit:List Byte:=[115,112,108,105,116]
def partD (m i:Nat):Nat:=fromB (tag nPart [be8 m,[BitVec.ofNat 8 i]])
def partK (s k:Nat):List Nat:=(List.range k).map (partD (addS 0 s))
def partsL (s:Nat)(n:Int):List Nat:=if n<1\/8<n then[]else partK s (n.toNat-1)++[addS s (negS (sumS (partK s (n.toNat-1))))]
theorem partK_len (s k:Nat):(partK s k).length=k:=by simp[partK]
theorem partK_succ (s k:Nat):partK s (k+1)=partK s k++[partD (addS 0 s) k]:=by simp[partK,List.range_succ]
theorem partK_lt (s k:Nat):∀t∈partK s k,t<q:=fun t ht=>by
  obtain⟨i,_,rfl⟩:=List.mem_map.1 ht
  exact fromB_lt _
theorem partsL_len {s:Nat}{n:Int}(h1:1<=n)(h8:n<=8):(partsL s n).length=n.toNat:=by
  unfold partsL
  rw[if_neg (by omega),List.length_append,partK_len]
  show n.toNat-1+1=n.toNat
  omega
theorem partsL_none {s:Nat}{n:Int}(h:n<1\/8<n):partsL s n=[]:=by unfold partsL;rw[if_pos h]
theorem partsL_le (s:Nat)(n:Int):(partsL s n).length<=8:=by
  by_cases h:n<1\/8<n
  · rw[partsL_none h];exact Nat.zero_le _
  · rw[partsL_len (by omega) (by omega)];omega
theorem partsL_len_le (s n:Nat):(partsL s (n:Int)).length<=n:=by
  by_cases h:(n:Int)<1\/8<(n:Int)
  · rw[partsL_none h];exact Nat.zero_le _
  · rw[partsL_len (by omega) (by omega)];omega
theorem partsL_lt (s:Nat)(n:Int):∀t∈partsL s n,t<q:=fun t ht=>by
  unfold partsL at ht
  split at ht
  · cases ht
  · rcases List.mem_append.1 ht with h|h
    · exact partK_lt _ _ t h
    · rw[List.mem_singleton.1 h];exact addS_lt _ _
theorem sumS_app1 (l:List Nat)(x:Nat):sumS (l++[x])=addS (sumS l) x:=by simp[sumS]
theorem sumS_lt:∀l:List Nat,sumS l<q:=fun l=>by
  rcases List.eq_nil_or_concat l with h|⟨l',x,h⟩
  · subst h;exact q_pos
  · rw[h,List.concat_eq_append,sumS_app1];exact addS_lt _ _
theorem partsL_whole {s:Nat}{n:Int}(h1:1<=n)(h8:n<=8):sumS (partsL s n)=s%q:=by
  unfold partsL
  rw[if_neg (by omega),sumS_app1]
  have hl:=sumS_lt (partK s (n.toNat-1))
  generalize sumS (partK s (n.toNat-1))=z at hl
  rw[addS_eq,addS_eq s]
  unfold negS
  rw[Nat.add_mod_mod,Nat.mod_eq_of_lt hl]
  have hq:=q_pos
  have hz:(q-z)%q=if z=0 then 0 else q-z:=by
    split
    · rename_i e;rw[e,Nat.sub_zero,Nat.mod_self]
    · exact Nat.mod_eq_of_lt (by omega)
  rw[hz]
  split
  · rename_i e;rw[e];simp
  · rw[show z+(s+(q-z))=s+q by omega,Nat.add_mod_right]
structure Pln where
  pts:List Nat
  bl:List Nat
def noPln:Pln:=⟨[],[]⟩
def seedD (seed:List Byte)(i:Nat):List Byte:=tag nSplit [seed,[BitVec.ofNat 8 i]]
def PlnMay (t n:Nat):Prop:=base t≠1/\1<=n/\n<=8
def planT (t:Nat)(sd:List Byte)(n:Nat):Pln:=⟨fromP (base t) (blindsP sd (n-1)),blindsP sd (n-1)⟩
def planAt (s:Nat)(seed:List Byte)(ns:List Nat)(i:Nat):Pln:=planT ((partsL s ns.length).getD i 0) (seedD seed i) (ns.getD i 0)
def planK (s:Nat)(seed:List Byte)(ns:List Nat)(k:Nat):List Pln:=(List.range k).map (planAt s seed ns)
instance (t n : Nat) : Decidable (PlnMay t n) := by unfold PlnMay; infer_instance
def PlansMay (s:Nat)(ns:List Nat):Prop:=∀i,i<(partsL s ns.length).length->PlnMay ((partsL s ns.length).getD i 0) (ns.getD i 0)
instance (s : Nat) (ns : List Nat) : Decidable (PlansMay s ns) := by unfold PlansMay; infer_instance
def plansL (s:Nat)(seed:List Byte)(ns:List Nat):List Pln:=if PlansMay s ns then planK s seed ns (partsL s ns.length).length else[]
theorem planK_len (s:Nat)(seed:List Byte)(ns:List Nat)(k:Nat):(planK s seed ns k).length=k:=by simp[planK]
theorem planK_succ (s:Nat)(seed:List Byte)(ns:List Nat)(k:Nat):planK s seed ns (k+1)=planK s seed ns k++[planAt s seed ns k]:=by simp[planK,List.range_succ]
theorem planK_at (s:Nat)(seed:List Byte)(ns:List Nat){k i:Nat}(h:i<k):(planK s seed ns k).getD i noPln=planAt s seed ns i:=by simp[planK,List.getD,h]
theorem plansL_yes {s:Nat}{seed:List Byte}{ns:List Nat}(h:PlansMay s ns):plansL s seed ns=planK s seed ns (partsL s ns.length).length:=if_pos h
theorem plansL_no {s:Nat}{seed:List Byte}{ns:List Nat}(h:¬PlansMay s ns):plansL s seed ns=[]:=if_neg h
theorem plansL_len {s:Nat}{seed:List Byte}{ns:List Nat}:(plansL s seed ns).length<=8:=by
  unfold plansL
  split
  · rw[planK_len];exact partsL_le _ _
  · exact Nat.zero_le _
theorem planT_len (t:Nat)(sd:List Byte){n:Nat}(h:1<=n):(planT t sd n).pts.length=n/\(planT t sd n).bl.length=n-1:=by
  unfold planT
  simp only
  rw[fromP_length,blindsP_length]
  omega
theorem set_fill {α:Type}(l:List α)(z v:α)(n k:Nat)(hl:l.length=k)(hk:k<n):(l++List.replicate (n-k) z).set k v=(l++[v])++List.replicate (n-(k+1)) z:=by
  subst hl
  rw[List.set_append_right _ _ (Nat.le_refl _),Nat.sub_self,show n-l.length=(n-(l.length+1))+1 by omega,List.replicate_succ,List.set_cons_zero,List.append_assoc]
  rfl
end Go.Osp

namespace Go.Osp
open Go.Hsp Go.Num
theorem map_base_at (l:List Nat){i:Nat}(h:i<l.length):(l.map base).getD i 0=base (l.getD i 0):=by simp[List.getD,h]
theorem planT_at (t:Nat)(sd:List Byte)(n:Nat){i:Nat}(h:i<n):(planT t sd n).pts.getD i 0=base ((tP t (planT t sd n).bl).getD i 0):=by
  show(fromP (base t) (blindsP sd (n-1))).getD i 0=base ((tP t (blindsP sd (n-1))).getD i 0)
  rw[fromP_base,map_base_at]
  rw[tP_length,blindsP_length];omega
theorem planT_last (t:Nat)(sd:List Byte){n:Nat}(h:1<=n):(planT t sd n).pts.getD (n-1) 0=base t:=by
  rw[planT_at t sd n (by omega)]
  have:=tP_last t (planT t sd n).bl
  rw[(planT_len t sd h).2]at this
  rw[this]
theorem base_ne {t:Nat}(ht:t<q)(h0:t≠0):base t≠1:=base_ne_one (by rw[Nat.mod_eq_of_lt ht];exact h0)
theorem plans_may {s:Nat}{ns:List Nat}(h0:∀i,i<(partsL s ns.length).length->(partsL s ns.length).getD i 0≠0)(hn:∀i,i<ns.length->1<=ns.getD i 0/\ns.getD i 0<=8):PlansMay s ns:=fun i hi=>by
  have hm:(partsL s ns.length).getD i 0∈partsL s ns.length:=by simp[List.getD,hi]
  have:=partsL_len_le s ns.length
  exact⟨base_ne (partsL_lt _ _ _ hm) (h0 i hi),hn i (by omega)⟩
end Go.Osp

namespace Go.Gsp
open Go.Osp Go.Num Go.Hsp
theorem addP_base0 {p:Nat}(h:right p=true):addP p (base 0)=p:=by
  have hb:base 0=1:=by decide+kernel
  have b:=(right_iff p).1 h
  rw[hb,addP,taken,taken,if_pos h,if_pos right_one,Nat.mul_one,Nat.mod_eq_of_lt b.2.1]
theorem fromP_rt {p:Nat}(h:right p=true):∀(l:List Nat) (i:Nat),i<=l.length->right ((fromP p l).getD i 0)=true
  |[],i,hi=>by rw[show i=0 by simpa using hi];exact h
  |b::l,0,_=>by rw[fromP];exact right_addP _ _
  |b::l,i+1,hi=>by rw[fromP];simpa using fromP_rt h l i (by simpa using hi)
theorem right_l64 {p:Nat}(h:right p=true):p<18446744073709551616:=Nat.lt_trans ((right_iff p).1 h).2.1 M_lt
theorem hopsW_at (w:List Edge)(s t:List Int)(p b:List Nat)(a x:Int)(i:Nat):(hopsL w s t p b a x).getD i noHop=if i<w.length-1 then hopAt w s t p b i else if i=w.length-1 then(-1,0,a,x,p.getD (w.length-1) 0,0)else noHop:=by
  unfold hopsL
  by_cases h:i<w.length-1
  · rw[if_pos h];simp[List.getD,List.getElem?_append_left,h]
  · rw[if_neg h]
    by_cases c:i=w.length-1
    · rw[if_pos c,c];simp[List.getD]
    · rw[if_neg c,List.getD_eq_getElem?_getD,List.getElem?_eq_none (by simp;omega)];rfl
def cndW (S T:List Int)(pts:List Nat)(i:Nat):Cnd:=⟨0,0,S.getD i 0,pts.getD i 0,T.getD i 0⟩
structure Wk (xs:List Edge)(a x:Int)(S T:List Int)(pts bl:List Nat):Prop where
  cs:Costs xs a x S T
  lp:pts.length=xs.length
  lb:bl.length=xs.length-1
  rt:∀j,j<xs.length->right (pts.getD j 0)=true
  pa:∀i,i+1<xs.length->pts.getD i 0=addP (pts.getD (i+1) 0) (base (bl.getD i 0))
  bq:∀b∈bl,b<q
section
variable {xs:List Edge}{a x:Int}{S T:List Int}{pts bl:List Nat}{ht:Int}{b:Bnd}
theorem wk_of {p:Nat}(hr:right p=true)(hc:(costG xs a x).2.2=0)(hb:bl.length=xs.length-1)(hq:∀b∈bl,b<q)(hp:pts=fromP p bl):Wk xs a x (costG xs a x).1 (costG xs a x).2.1 pts bl:=by
  subst hp
  have cs:=costs_of hc
  have hl:=cs.len
  refine⟨cs,by rw[fromP_length,hb];omega,hb,fun j hj=>fromP_rt hr bl j (by omega),fun i hi=>fromP_at p bl i (by omega),hq⟩
theorem Wk.hops (h:Wk xs a x (costG xs a x).1 (costG xs a x).2.1 pts bl)(hc:(costG xs a x).2.2=0):hopsG xs a x pts bl=(hopsL xs (costG xs a x).1 (costG xs a x).2.1 pts bl a x,0):=by
  unfold hopsG
  rw[if_neg (by simpa using hc),if_neg (by have:=h.lp;have:=h.lb;omega)]
theorem Wk.len (h:Wk xs a x S T pts bl):(hopsL xs S T pts bl a x).length=xs.length:=by
  have:=h.cs.len
  simp[hopsL];omega
theorem Wk.at_ (h:Wk xs a x S T pts bl){i:Nat}(hi:i+1<xs.length):(hopsL xs S T pts bl a x).getD i noHop=hopAt xs S T pts bl i:=by rw[hopsW_at,if_pos (by omega)]
theorem Wk.fin (h:Wk xs a x S T pts bl):(hopsL xs S T pts bl a x).getD (xs.length-1) noHop=(-1,0,a,x,pts.getD (xs.length-1) 0,0):=by rw[hopsW_at,if_neg (by omega),if_pos rfl]
theorem Wk.one (h:Wk xs a x S T pts bl){i:Nat}(hi:i<xs.length):HopOk ((hopsL xs S T pts bl a x).getD i noHop)/\mayB ((hopsL xs S T pts bl a x).getD i noHop)=true/\(((hopsL xs S T pts bl a x).getD i noHop).1<0↔i+1=xs.length):=by
  have cs:=h.cs
  have hq:(q:Nat)<18446744073709551616:=by decide
  by_cases e:i+1<xs.length
  · rw[h.at_ e]
    have ho:=edgeOk_T (wayG_at cs.way (i:=i+1) e).1
    have hS:=cs.inS e
    have b:=inB_T hS.1
    have d:=inB_T hS.2
    have hb:bl.getD i 0<q:=h.bq _ (by have:=h.lb;simp[List.getD,show i<bl.length by omega])
    have hr:=h.rt (i+1) e
    have hl:=right_l64 hr
    refine⟨⟨?_,?_,?_,?_,?_,?_⟩,?_,?_⟩
    · show I64 (xs.getD (i+1) noEdge).t;unfold I64;omega
    · show I64 (xs.getD (i+1) noEdge).c;unfold I64;omega
    · show I64 (S.getD (i+1) 0);unfold I64;omega
    · show I64 (T.getD (i+1) 0);unfold I64;omega
    · exact hl
    · show bl.getD i 0<_;omega
    · unfold mayB hopAt
      simp only[Bool.and_eq_true,decide_eq_true_eq,Bool.or_eq_true]
      exact⟨⟨⟨⟨by omega,by omega⟩,by omega⟩,by omega⟩,hb,.inr hr⟩
    · show(xs.getD (i+1) noEdge).t<0↔_;omega
  · have e':i=xs.length-1:=by omega
    rw[e',h.fin]
    have hr:=h.rt (xs.length-1) (by omega)
    have hl:=right_l64 hr
    have ha:=cs.amt
    have hx:=cs.exp
    refine⟨⟨by unfold I64;simp,by unfold I64;simp,by unfold I64;simp only;omega,by unfold I64;simp only;omega,hl,by show 0<_;decide⟩,?_,?_⟩
    · unfold mayB
      simp only[Bool.and_eq_true,decide_eq_true_eq,Bool.or_eq_true]
      exact⟨⟨⟨⟨by omega,by omega⟩,by omega⟩,by omega⟩,q_pos,.inr hr⟩
    · simp only;omega
theorem Wk.ok (h:Wk xs a x S T pts bl):∀y∈hopsL xs S T pts bl a x,HopOk y:=fun y hy=>by
  obtain⟨i,hi,rfl⟩:=List.mem_iff_getElem.1 hy
  have:=(h.one (i:=i) (by rw[<-h.len];exact hi)).1
  rwa [show(hopsL xs S T pts bl a x).getD i noHop=(hopsL xs S T pts bl a x)[i] by simp[List.getD,hi]]at this
theorem Wk.may (h:Wk xs a x S T pts bl){ks:List Nat}(hk:ks.length=xs.length):hopsOk ks (hopsL xs S T pts bl a x)=true:=by
  unfold hopsOk
  rw[h.len,hk]
  simp only[decide_true,Bool.true_and,List.all_eq_true,List.mem_range]
  intro i hi
  obtain⟨_,b,c⟩:=h.one hi
  rw[show((0,0,0,0,0,0):Hop)=noHop from rfl,b,Bool.true_and]
  exact decide_eq_true (decide_eq_decide.2 c)
theorem Wk.wrap (h:Wk xs a x S T pts bl){own:List Nat}(hl:own.length=xs.length)(ho:∀k∈own,k≠0/\k<q):(keysOk (own.map base)&&hopsOk (own.map base) (hopsL xs S T pts bl a x))=true:=by
  have:=h.cs.len
  rw[keysOk_base own ho (by omega) (by omega),h.may (by rw[List.length_map];exact hl)];rfl
theorem Wk.peel (h:Wk xs a x S T pts bl){own:List Nat}(hl:own.length=xs.length)(ho:∀k∈own,k≠0/\k<q)(seed:List Byte){i:Nat}(hi:i<xs.length):
    ∃sum,peelB (own.getD i 0) (pkt (own.map base) (hopsL xs S T pts bl a x) seed i)=((hopsL xs S T pts bl a x).getD i noHop,pkt (own.map base) (hopsL xs S T pts bl a x) seed (i+1),sum,0):=by
  have:=h.cs.len
  exact⟨_,peel_at own _ seed ho (h.may (by rw[List.length_map];exact hl)) h.ok (by omega) i (by omega)⟩
theorem cndW_passed (hcs:Costs xs a x S T){i:Nat}(hi:i<xs.length)(h1:pts.getD i 0≠1)(hr:right (pts.getD i 0)=true):passedB (cndW S T pts i)=true:=by
  have:=hcs.inS hi
  simp only[passedB,cndW,this.1,this.2,hr,Bool.true_and,Bool.and_true,decide_eq_true_eq]
  exact decide_eq_true h1
theorem Wk.next (h:Wk xs a x S T pts bl){i:Nat}(hi:i+1<xs.length)(h1:∀j,j<xs.length->pts.getD j 0≠1)(hw:worldB ht b=true)(hx:ht<x-b.nap):
    nextE ((hopsL xs S T pts bl a x).getD i noHop) (cndW S T pts i) (xs.getD (i+1) noEdge).pol ht b=(cndW S T pts (i+1),0):=by
  rw[h.at_ hi]
  have hcs:=h.cs
  have hok:=edgeOk_T (wayG_at hcs.way (i:=i+1) hi).1
  have hrm:=hcs.room (i+1) hi
  obtain⟨c,d,e,f⟩:=hcs.step i hi
  have hge:=hcs.ge (xs.length-2-i) (i+1) (by omega)
  have et:toldC (hopAt xs S T pts bl i)=cndW S T pts (i+1):=rfl
  have hm:mayE (cndW S T pts i) (toldC (hopAt xs S T pts bl i)) (xs.getD (i+1) noEdge).pol ht b=0:=by
    rw[et]
    unfold mayE
    rw[if_pos ⟨hok.2.2.2.2.2,cndW_passed hcs (by omega) (h1 i (by omega)) (h.rt i (by omega)),cndW_passed hcs hi (h1 _ hi) (h.rt _ hi),hw⟩]
    rw[if_pos (show inB (cndW S T pts (i+1)).am _ _=true from decide_eq_true (by simp only[cndW];omega)),if_pos (show(feeG _ (cndW S T pts (i+1)).am).2=true/\¬(cndW S T pts i).am-(cndW S T pts (i+1)).am<(feeG _ (cndW S T pts (i+1)).am).1 from⟨c,by simp only[cndW];omega⟩),if_pos (by simp only[cndW];omega)]
  unfold nextE
  rw[if_pos ⟨decide_eq_true (by simp only[hopAt];omega),decide_eq_true (by simp only[hopAt];omega),by rw[hm];decide⟩,if_pos (show(cndW S T pts i).pt=ownP (hopAt xs S T pts bl i)from h.pa i hi),if_pos hm,et]
theorem Wk.last (h:Wk xs a x S T pts bl)(h1:∀j,j<xs.length->pts.getD j 0≠1)(hw:worldB ht b=true)(hx:ht<x-b.nap):
    lastE ((hopsL xs S T pts bl a x).getD (xs.length-1) noHop) (cndW S T pts (xs.length-1)) ht b=0:=by
  rw[h.fin]
  have hcs:=h.cs
  have hl:=hcs.len
  have hS:=hcs.endS
  have hT:=hcs.endT
  have hp:=cndW_passed hcs (i:=xs.length-1) (by omega) (h1 _ (by omega)) (h.rt _ (by omega))
  have e:toldC (-1,0,a,x,pts.getD (xs.length-1) 0,0)=cndW S T pts (xs.length-1):=by simp only[toldC,cndW,hS,hT]
  unfold lastE
  rw[if_pos ⟨rfl,by rw[e];exact hp,hp,hw⟩,if_pos (show(cndW S T pts (xs.length-1)).pt=ownP (-1,0,a,x,pts.getD (xs.length-1) 0,0)from(addP_base0 (h.rt _ (by omega))).symm),if_neg (by simp only[cndW,hS];omega),if_neg (by simp only[cndW,hT];omega)]
end
def ownW (k:Int)(xs:List Edge):List Nat:=xs.map fun e=>(k+e.t).toNat
theorem ownW_ok {xs:List Edge}{k:Int}(hk:1<=k/\k<=100)(h:wayG xs=true):(ownW k xs).length=xs.length/\(∀y∈ownW k xs,y≠0/\y<q)/\∀i,i<xs.length->(ownW k xs).getD i 0=(k+(xs.getD i noEdge).t).toNat:=by
  have hq:q=2305843009213688669:=rfl
  refine⟨by simp[ownW],fun y hy=>?_,fun i hi=>by simp[ownW,List.getD,hi]⟩
  obtain⟨e,he,rfl⟩:=List.mem_map.1 hy
  obtain⟨i,hi,rfl⟩:=List.mem_iff_getElem.1 he
  have:=(edgeOk_T (wayG_at h (i:=i) hi).1).2.1
  rw[show xs.getD i noEdge=xs[i] by simp[List.getD,hi]]at this
  show(k+xs[i].t).toNat≠0/\(k+xs[i].t).toNat<q
  omega
theorem ownW_next {k:Int}{xs:List Edge}{i:Nat}(h:i<xs.length):((ownW k xs).take (i+1)).map base=((ownW k xs).take i).map base++[base (k+(xs.getD i noEdge).t).toNat]:=by
  rw[List.take_add_one,List.map_append]
  simp[ownW,List.getD,h]
end Go.Gsp

namespace Go.Osp
open Go.Hsp Go.Num
def stP (k:Nat)(p:List Byte):Stop:=(numB p,sharedB (scale (numB p) k))
def opP (k:Nat)(p:List Byte):List Byte:=opened (stP k p) ((p.drop 8).take 640)
theorem peel_cases (k:Nat)(p:List Byte):(∃e:Int,peelB k p=(noHop,[],zeros 32,e)/\e≠0)\/
    (k≠0/\k<q/\p.length=680/\keyOk (numB p)=true/\macB (stP k p) ((p.drop 8).take 640)=p.drop 648/\mayB (readH (opP k p))=true/\
      peelB k p=(readH (opP k p),if(readH (opP k p)).1<0 then[]else be8 (scale (numB p) (blindB (stP k p)))++(opP k p).drop 80++((opP k p).drop 48).take 32,sharedB (scale (numB p) k),0)):=by
  by_cases b:k=0\/q<=k
  · exact .inl ⟨1,by rw[peelB,if_pos b],by decide⟩
  by_cases c:p.length≠680
  · exact .inl ⟨2,by rw[peelB,if_neg b,if_pos c],by decide⟩
  by_cases d:keyOk (numB p)=false
  · exact .inl ⟨2,by rw[peelB,if_neg b,if_neg c,if_pos d],by decide⟩
  by_cases f:macB (numB p,sharedB (scale (numB p) k)) ((p.drop 8).take 640)≠p.drop 648
  · exact .inl ⟨18,by rw[peelB,if_neg b,if_neg c,if_neg d,if_pos f],by decide⟩
  by_cases i:mayB (readH (opened (numB p,sharedB (scale (numB p) k)) ((p.drop 8).take 640)))=false
  · exact .inl ⟨2,by rw[peelB,if_neg b,if_neg c,if_neg d,if_neg f,if_pos i],by decide⟩
  refine .inr ⟨fun h=>b (.inl h),Nat.lt_of_not_le (fun h=>b (.inr h)),by simpa using c,by simpa using d,Classical.not_not.1 f,by rw[Bool.not_eq_false]at i;exact i,?_⟩
  rw[peelB,if_neg b,if_neg c,if_neg d,if_neg f,if_neg i]
  rfl
end Go.Osp

