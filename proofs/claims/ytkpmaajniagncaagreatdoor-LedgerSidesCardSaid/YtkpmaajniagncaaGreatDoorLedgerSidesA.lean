/- LedgerSides: for every input the law answers true and leaves its arguments as they were. -/
set_option linter.unusedVariables false
set_option linter.unusedSimpArgs false
namespace Go
theorem Z {α : Sort _} {a : α} : a = a := rfl
end Go
namespace Go.Fv
abbrev Byte:=BitVec 8
abbrev Word:=BitVec 32
def vB (m:Nat):List Byte:=[56,48,40,32,24,16,8,0].map fun k=>BitVec.ofNat 8 (m>>>k)
def rH (m k:Nat):List Byte:=(vB m).take k
theorem iL (m:Nat):(vB m).length=8:=Z
theorem xE (m k:Nat)(h:k<8):rH m (k+1)=rH m k++[BitVec.ofNat 8 (m>>>(56-8*k))]:=by
 have:k=0\/k=1\/k=2\/k=3\/k=4\/k=5\/k=6\/k=7:=by omega
 rcases this with rfl|rfl|rfl|rfl|rfl|rfl|rfl|rfl<;>rfl
def QN (x:Word)(k:Nat):Word:=x<<<(32-k)|||x>>>k
def ZH (b:List Byte):Word:=(b.getD 0 0).setWidth 32<<<24|||(b.getD 1 0).setWidth 32<<<16|||(b.getD 2 0).setWidth 32<<<8|||(b.getD 3 0).setWidth 32
def Gr (w:List Word)(k:Nat):Word:=
 w.getD (k-16) 0+(QN (w.getD (k-15) 0) 7^^^QN (w.getD (k-15) 0) 18^^^(w.getD (k-15) 0)>>>3)+w.getD (k-7) 0
  +(QN (w.getD (k-2) 0) 17^^^QN (w.getD (k-2) 0) 19^^^(w.getD (k-2) 0)>>>10)
def pq (b:List Byte):Nat->List Word
 |0=>[]
 |k+1=>pq b k++[if k<16 then ZH (b.drop (4*k))else Gr (pq b k) k]
theorem nQ (b:List Byte):∀k,(pq b k).length=k
 |0=>rfl
 |k+1=>by simp[pq,nQ b k]
def sched (b:List Byte):List Word:=pq b 64
def table:List Word:=[
 0x428a2f98,0x71374491,0xb5c0fbcf,0xe9b5dba5,0x3956c25b,0x59f111f1,0x923f82a4,0xab1c5ed5,
 0xd807aa98,0x12835b01,0x243185be,0x550c7dc3,0x72be5d74,0x80deb1fe,0x9bdc06a7,0xc19bf174,
 0xe49b69c1,0xefbe4786,0x0fc19dc6,0x240ca1cc,0x2de92c6f,0x4a7484aa,0x5cb0a9dc,0x76f988da,
 0x983e5152,0xa831c66d,0xb00327c8,0xbf597fc7,0xc6e00bf3,0xd5a79147,0x06ca6351,0x14292967,
 0x27b70a85,0x2e1b2138,0x4d2c6dfc,0x53380d13,0x650a7354,0x766a0abb,0x81c2c92e,0x92722c85,
 0xa2bfe8a1,0xa81a664b,0xc24b8b70,0xc76c51a3,0xd192e819,0xd6990624,0xf40e3585,0x106aa070,
 0x19a4c116,0x1e376c08,0x2748774c,0x34b0bcb5,0x391c0cb3,0x4ed8aa4a,0x5b9cca4f,0x682e6ff3,
 0x748f82ee,0x78a5636f,0x84c87814,0x8cc70208,0x90befffa,0xa4506ceb,0xbef9a3f7,0xc67178f2]
def first:List Word:=[0x6a09e667,0xbb67ae85,0x3c6ef372,0xa54ff53a,0x510e527f,0x9b05688c,0x1f83d9ab,0x5be0cd19]
def stepW (v:List Word)(k w:Word):List Word:=
 let s:=QN (v.getD 4 0) 6^^^QN (v.getD 4 0) 11^^^QN (v.getD 4 0) 25
 let t:=v.getD 7 0+s+(v.getD 6 0^^^v.getD 4 0&&&(v.getD 5 0^^^v.getD 6 0))+k+w
 let r:=QN (v.getD 0 0) 2^^^QN (v.getD 0 0) 13^^^QN (v.getD 0 0) 22
 let most:=v.getD 0 0&&&v.getD 1 0|||v.getD 2 0&&&(v.getD 0 0|||v.getD 1 0)
 [t+r+most,v.getD 0 0,v.getD 1 0,v.getD 2 0,v.getD 3 0+t,v.getD 4 0,v.getD 5 0,v.getD 6 0]
def mM (h:List Word)(ws:List Word):Nat->List Word
 |0=>h
 |i+1=>stepW (mM h ws i) (table.getD i 0) (ws.getD i 0)
theorem x9 (h ws:List Word)(hh:h.length=8):∀i,(mM h ws i).length=8
 |0=>hh
 |i+1=>by simp[mM,stepW]
def vC (v h:List Word)(i:Nat):List Word:=(List.range 8).map fun j=>if j<i then v.getD j 0+h.getD j 0 else v.getD j 0
theorem ql (v h:List Word)(i:Nat):(vC v h i).length=8:=by simp[vC]
theorem Gs (v h:List Word)(hv:v.length=8):vC v h 0=v:=by
 apply List.ext_getElem (by simp[vC,hv])
 intro j d c
 simp[vC,List.getD,c]
theorem vT (v h:List Word)(i j:Nat)(hj:j<8):(vC v h i)[j]? =some (if j<i then v.getD j 0+h.getD j 0 else v.getD j 0):=by simp[vC,hj]
theorem Mr (v h:List Word)(i j:Nat)(hj:j<8):(vC v h i).getD j 0=if j<i then v.getD j 0+h.getD j 0 else v.getD j 0:=by
 rw[List.getD_eq_getElem?_getD,vT v h i j hj];rfl
theorem Gt (v h:List Word)(i:Nat)(hi:i<8):(vC v h i).set i (v.getD i 0+h.getD i 0)=vC v h (i+1):=by
 apply List.ext_getElem?
 intro j
 by_cases hj:j<8
 ·rw[vT v h (i+1) j hj,List.getElem?_set]
  split
  ·subst_vars;simp[ql,hi]
  ·rename_i hne
   rw[vT v h i j hj]
   by_cases c:j<i
   ·rw[if_pos c,if_pos (by omega)]
   ·rw[if_neg c,if_neg (by omega)]
 ·rw[List.getElem?_eq_none (by simp[ql];omega),List.getElem?_eq_none (by simp[ql];omega)]
def mix (h:List Word)(b:List Byte):List Word:=vC (mM h (sched b) 64) h 8
theorem qX (h:List Word)(b:List Byte):(mix h b).length=8:=ql _ _ _
def aev (h:List Word)(b:List Byte):Nat->List Word
 |0=>h
 |n+1=>aev (mix h (b.take 64)) (b.drop 64) n
def lK (h:List Word)(b:List Byte):List Word:=aev h b (b.length/64)
theorem tH (h:List Word)(b:List Byte)(hb:64<=b.length):lK h b=lK (mix h (b.take 64)) (b.drop 64):=by
 unfold lK
 rw[List.length_drop,show b.length/64=(b.length-64)/64+1 by omega]
 rfl
theorem uM (h:List Word)(b:List Byte)(hb:b.length<64):lK h b=h:=by
 unfold lK
 rw[Nat.div_eq_of_lt hb]
 rfl
def noughts (n:Nat):Nat:=(64+55-n%64)%64
def tail (b:List Byte):List Byte:=b.drop (b.length-b.length%64)++[128]++List.replicate (noughts b.length) 0++vB (8*b.length)
def digest (h:List Word):List Byte:=(List.range 32).map fun k=>((h.getD (k/4) 0)>>>(24-8*(k%4))).setWidth 8
def rJ (h:List Word)(k:Nat):List Byte:=(digest h).take k++List.replicate (32-k) 0
theorem qJ (h:List Word):(digest h).length=32:=by simp[digest]
theorem yc (h:List Word)(k:Nat)(hk:k<=32):(rJ h k).length=32:=by simp[rJ,qJ];omega
theorem AQ (h:List Word)(k:Nat)(hk:k<32):(rJ h k).set k (((h.getD (k/4) 0)>>>(24-8*(k%4))).setWidth 8)=rJ h (k+1):=by
 have e:(digest h)[k]? =some (((h.getD (k/4) 0)>>>(24-8*(k%4))).setWidth 8):=by simp[digest,hk]
 unfold rJ
 have hl:((digest h).take k).length=k:=by simp[qJ];omega
 rw[List.set_append,if_neg (by rw[hl];omega),hl,Nat.sub_self,show(32-k)=(32-(k+1))+1 by omega,List.replicate_succ,List.set_cons_zero,List.take_add_one,e]
 simp
def sum (b:List Byte):List Byte:=digest (lK (lK first b) (tail b))
theorem mO (b:List Byte):(sum b).length=32:=qJ _
theorem Ms (b:List Byte):(tail b).length%64=0:=by
 simp only[tail,List.length_append,List.length_drop,List.length_replicate,iL,List.length_singleton,noughts]
 omega
def kY (name:List Byte):List (List Byte)->List Byte
 |parts=>vB name.length++name++(parts.map fun p=>vB p.length++p).flatten
def pz (name:List Byte)(parts:List (List Byte))(k:Nat):List Byte:=vB name.length++name++((parts.take k).map fun p=>vB p.length++p).flatten
theorem pK (name:List Byte)(parts:List (List Byte)):pz name parts 0=vB name.length++name:=by simp[pz]
theorem Gu (name:List Byte)(parts:List (List Byte))(k:Nat)(q:List Byte)(h:parts[k]? =some q):pz name parts (k+1)=pz name parts k++vB q.length++q:=by
 simp[pz,List.take_add_one,h]
theorem Ju (name:List Byte)(parts:List (List Byte))(k:Nat)(h:parts.length<=k):pz name parts k=kY name parts:=by
 simp[pz,kY,List.take_of_length_le h]
theorem wF (name:List Byte)(parts:List (List Byte))(k:Nat):(pz name parts k).length<=(kY name parts).length:=by
 have e:kY name parts=pz name parts k++((parts.drop k).map fun p=>vB p.length++p).flatten:=by
  unfold pz kY
  rw[List.append_assoc (vB name.length++name),<-List.flatten_append,<-List.map_append,List.take_append_drop]
 rw[e,List.length_append]
 exact Nat.le_add_right _ _
theorem Gv:∀(parts:List (List Byte)),8*parts.length<=((parts.map fun p=>vB p.length++p).flatten).length
 |[]=>by simp
 |p::ps=>by
  have:=Gv ps
  simp only[List.map_cons,List.flatten_cons,List.length_append,iL,List.length_cons]
  omega
theorem yJ (name:List Byte)(parts:List (List Byte)):8*parts.length<=(kY name parts).length:=by
 have:=Gv parts
 unfold kY
 rw[List.length_append]
 omega
def tag (name:List Byte)(parts:List (List Byte)):List Byte:=sum (kY name parts)
theorem jG (name:List Byte)(parts:List (List Byte)):(tag name parts).length=32:=mO _
end Go.Fv
namespace Go.Num
def oH (p:Nat):Prop:=2<=p/\∀d,d∣p->d=1\/d=p
theorem oH.coprime {p x:Nat}(h:oH p)(hx:¬p∣x):Nat.Coprime p x:=by
 rcases h.2 (Nat.gcd p x) (Nat.gcd_dvd_left p x)with c|c
 ·exact c
 ·exact absurd (c▸Nat.gcd_dvd_right p x) hx
def pm (m:Nat):Nat->Nat->Nat->Nat->Nat
 |0,_,_,out=>out
 |f+1,a,n,out=>pm m f (a*a%m) (n/2) (if n%2=1 then out*a%m else out)
theorem Mt (m:Nat):∀(f a n out:Nat),n<2^f->out<m->pm m f a n out=out*a^n%m
 |0,a,n,out,h,ho=>by
  have:n=0:=by simpa using h
  subst this
  simp[pm,Nat.mod_eq_of_lt ho]
 |f+1,a,n,out,h,ho=>by
  have hm:0<m:=by omega
  have hn:n/2<2^f:=by rw[Nat.pow_succ]at h;omega
  rw[pm]
  by_cases hp:n%2=1
  ·rw[if_pos hp,Mt m f _ _ _ hn (Nat.mod_lt _ hm)]
   have e:a^n=a*(a*a)^(n/2):=by
    have c:n=2*(n/2)+1:=by omega
    conv=>lhs;rw[c]
    rw[Nat.pow_succ,Nat.pow_mul,Nat.pow_two,Nat.mul_comm]
   rw[e,Nat.mul_mod,Nat.mod_mod,<-Nat.pow_mod,<-Nat.mul_mod,Nat.mul_assoc]
  ·rw[if_neg hp,Mt m f _ _ _ hn ho]
   have e:a^n=(a*a)^(n/2):=by
    have c:n=2*(n/2):=by omega
    conv=>lhs;rw[c]
    rw[Nat.pow_mul,Nat.pow_two]
   rw[e,Nat.mul_mod,<-Nat.pow_mod,<-Nat.mul_mod]
theorem Vw:∀(n:Nat) (f:Nat->Nat),(∀i,i<n->f i<n)->(∀i j,i<n->j<n->f i=f j->i=j)->∀y,y<n->∃i,i<n/\f i=y
 |0,_,_,_,y,hy=>by omega
 |n+1,f,hf,hi,y,hy=>by
  by_cases hyn:f n=y
  ·exact⟨n,by omega,hyn⟩
  ·have hf':∀i,i<n->(if f i=n then f n else f i)<n:=by
    intro i h
    split
    ·rename_i he
     have d:=hf n (by omega)
     have c:f n≠n:=fun k=>by have:=hi i n (by omega) (by omega) (by omega);omega
     omega
    ·have:=hf i (by omega);omega
   have hi':∀i j,i<n->j<n->(if f i=n then f n else f i)=(if f j=n then f n else f j)->i=j:=by
    intro i j d c he
    split at he<;>split at he
    ·exact hi i j (by omega) (by omega) (by omega)
    ·have:=hi n j (by omega) (by omega) he;omega
    ·have:=hi i n (by omega) (by omega) he;omega
    ·exact hi i j (by omega) (by omega) he
   have ih:=Vw n (fun i=>if f i=n then f n else f i) hf' hi'
   by_cases e:y<n
   ·obtain⟨i,d,c⟩:=ih y e
    by_cases hh:f i=n
    ·rw[if_pos hh]at c;exact absurd c hyn
    ·rw[if_neg hh]at c;exact⟨i,by omega,c⟩
   ·have ag2:y=n:=by omega
    subst ag2
    obtain⟨i,d,c⟩:=ih (f y) (by have:=hf y (by omega);omega)
    by_cases hh:f i=y
    ·exact⟨i,by omega,hh⟩
    ·rw[if_neg hh]at c
     have:=hi i y (by omega) (by omega) c
     omega
theorem least {p:Nat->Prop}[DecidablePred p](n:Nat)(h:p n):∃k,k<=n/\p k/\∀j,j<k->¬p j:=by
 induction n using Nat.strongRecOn with
 |ind n ih=>
  by_cases hs:∃j,j<n/\p j
  ·obtain⟨j,hj,hp⟩:=hs
   obtain⟨k,e,c,d⟩:=ih j hj hp
   exact⟨k,by omega,c,d⟩
  ·exact⟨n,Nat.le_refl _,h,fun j hj hp=>hs ⟨j,hj,hp⟩⟩
variable {k:Nat}
theorem Dn {a m d:Nat}(hm:1<m)(h:a^d%m=1)(hk:a^k%m=1)(hl:∀j,j<d->0<j->¬a^j%m=1)(hd:0<d):d∣k:=by
 rw[Nat.dvd_iff_mod_eq_zero]
 have e:a^k%m=a^(k%d)%m:=by
  have c:k=d*(k/d)+k%d:=(Nat.div_add_mod k d).symm
  conv=>lhs;rw[c]
  rw[Nat.pow_add,Nat.pow_mul,Nat.mul_mod,Nat.pow_mod (a^d),h,Nat.one_pow,Nat.mod_eq_of_lt hm,Nat.one_mul,Nat.mod_mod]
 by_cases hz:k%d=0
 ·exact hz
 ·exact absurd (e▸hk) (hl _ (Nat.mod_lt _ hd) (by omega))
theorem Mv:∀(fs:List Nat) (m:Nat),(∀r∈fs,oH r)->1<m->m∣fs.foldr (· * ·) 1->∃r∈fs,r∣m
 |[],m,_,hm,hd=>by
  have:m=1:=Nat.dvd_one.1 hd
  omega
 |r::fs,m,hp,hm,hd=>by
  by_cases hr:r∣m
  ·exact⟨r,by simp,hr⟩
  ·have hc:Nat.Coprime m r:=((hp r (by simp)).coprime hr).symm
   obtain⟨q,c,d⟩:=Mv fs m (fun q hq=>hp q (by simp[hq])) hm (hc.dvd_of_dvd_mul_left hd)
   exact⟨q,by simp[c],d⟩
theorem aew (n a:Nat)(fs:List Nat)(hn:2<n)(hf:fs.foldr (· * ·) 1=n-1)(hp:∀r∈fs,oH r)(h1:a^(n-1)%n=1)(h2:∀r∈fs,¬a^((n-1)/r)%n=1):oH n:=by
 obtain⟨d,hd,⟨l,f⟩,hl⟩:=least (p:=fun k=>0<k/\a^k%n=1) (n-1) ⟨by omega,h1⟩
 have hl':∀j,j<d->0<j->¬a^j%n=1:=fun j hj o h=>hl j hj ⟨o,h⟩
 have hdn:d∣n-1:=Dn (by omega) f h1 hl' l
 have hde:d=n-1:=by
  obtain⟨m,hm⟩:=hdn
  by_cases s:m=1
  ·rw[hm,s,Nat.mul_one]
  ·have A:m≠0:=fun h=>by rw[h]at hm;simp at hm;omega
   obtain⟨r,hr,t,ht⟩:=Mv fs m hp (by omega) (by rw[hf,hm];exact Nat.dvd_mul_left m d)
   have u:0<r:=by have:=(hp r hr).1;omega
   have e:(n-1)/r=d*t:=by
    rw[hm,ht,Nat.mul_left_comm,Nat.mul_comm r,Nat.mul_div_cancel _ u]
   exact absurd (by rw[e,Nat.pow_mul,Nat.pow_mod,f,Nat.one_pow,Nat.mod_eq_of_lt (by omega)]) (h2 r hr)
 subst hde
 have unit:∀i,i<=n-1->(a^i%n)*(a^(n-1-i))%n=1:=by
  intro i hi
  rw[Nat.mul_mod,Nat.mod_mod,<-Nat.mul_mod,<-Nat.pow_add,show i+(n-1-i)=n-1 by omega,h1]
 have pos:∀i,i<=n-1->0<a^i%n:=by
  intro i hi
  rcases Nat.eq_zero_or_pos (a^i%n)with h|h
  ·have:=unit i hi;rw[h]at this;simp at this
  ·exact h
 have inj:∀i j,i<n-1->j<n-1->i<=j->a^i%n=a^j%n->i=j:=by
  intro i j hi hj hij he
  have c:a^(j-i)%n=1:=by
   have hu:=unit i (by omega)
   rw[he]at hu
   rw[Nat.mul_mod,Nat.mod_mod,<-Nat.mul_mod,<-Nat.pow_add,show j+(n-1-i)=(n-1)+(j-i) by omega,Nat.pow_add,Nat.mul_mod,h1,Nat.one_mul,Nat.mod_mod]at hu
   exact hu
  by_cases hz:j-i=0
  ·omega
  ·exact absurd c (hl' _ (by omega) (by omega))
 have all:=Vw (n-1) (fun i=>a^i%n-1) (fun i hi=>by have:=pos i (by omega);have:=Nat.mod_lt (a^i) (show 0<n by omega);omega)
  (fun i j hi hj he=>by
   have c:=pos i (by omega)
   have B:=pos j (by omega)
   rcases Nat.le_total i j with h|h
   ·exact inj i j hi hj h (by omega)
   ·exact(inj j i hj hi h (by omega)).symm)
 refine⟨by omega,fun e he=>?_⟩
 by_cases v:e=n
 ·exact .inr v
 ·have aiC:e<=n:=Nat.le_of_dvd (by omega) he
  have C:0<e:=Nat.pos_of_dvd_of_pos he (by omega)
  obtain⟨i,hi,hie⟩:=all (e-1) (by omega)
  have c:=pos i (by omega)
  have hu:=unit i (by omega)
  rw[show a^i%n=e by omega]at hu
  left
  have x:e∣1:=by
   have y:e∣e*a^(n-1-i)%n:=(Nat.dvd_mod_iff he).2 (Nat.dvd_mul_right _ _)
   rwa [hu]at y
  exact Nat.dvd_one.1 x
theorem wG (n a f:Nat)(fs:List Nat)(hn:2<n)(hff:n<2^f)(hf:fs.foldr (· * ·) 1=n-1)(hp:∀r∈fs,oH r)(h1:pm n f a (n-1) 1=1)(h2:∀r∈fs,¬pm n f a ((n-1)/r) 1=1):oH n:=by
 refine aew n a fs hn hf hp ?_ ?_
 ·rw[Mt n f a _ 1 (by omega) (by omega),Nat.one_mul]at h1
  exact h1
 ·intro r hr
  have:=h2 r hr
  rw[Mt n f a _ 1 (Nat.lt_of_le_of_lt (Nat.div_le_self _ _) (by omega)) (by omega),Nat.one_mul]at this
  exact this
theorem mH (p:Nat)(h2:2<=p)(h:(List.range p).all (fun d=>decide (d<2)||decide (p%d≠0))=true):oH p:=by
 refine⟨h2,fun d hd=>?_⟩
 have hle:=Nat.le_of_dvd (by omega) hd
 by_cases c:d=p
 ·exact .inr c
 ·rw[List.all_eq_true]at h
  have:=h d (List.mem_range.2 (by omega))
  rw[Nat.dvd_iff_mod_eq_zero]at hd
  have e:d≠0:=fun h=>by subst h;simp at hd;omega
  simp[hd]at this
  left;omega
theorem zJ:oH 2:=mH 2 (by decide) (by decide+kernel)
theorem QO:oH 3:=mH 3 (by decide) (by decide+kernel)
theorem ZI:oH 5:=mH 5 (by decide) (by decide+kernel)
theorem ZJ:oH 7:=mH 7 (by decide) (by decide+kernel)
theorem Vx:oH 11:=mH 11 (by decide) (by decide+kernel)
theorem Vy:oH 17:=mH 17 (by decide) (by decide+kernel)
theorem Vz:oH 23:=mH 23 (by decide) (by decide+kernel)
theorem VA:oH 73:=mH 73 (by decide) (by decide+kernel)
theorem S9:oH 821:=mH 821 (by decide) (by decide+kernel)
theorem Pf:oH 2311:=mH 2311 (by decide) (by decide+kernel)
theorem KI:oH 172411:=by
 refine wG 172411 3 18 [2,3,5,7,821] (by decide) (by decide) (by decide) ?_ (by decide+kernel) ?_
 ·intro r hr
  simp at hr
  rcases hr with rfl|rfl|rfl|rfl|rfl
  ·exact zJ
  ·exact QO
  ·exact ZI
  ·exact ZJ
  ·exact S9
 ·intro r hr
  simp at hr
  rcases hr with rfl|rfl|rfl|rfl|rfl
  ·decide+kernel
  ·decide+kernel
  ·decide+kernel
  ·decide+kernel
  ·decide+kernel
theorem Jf:oH 7930907:=by
 refine wG 7930907 2 23 [2,23,172411] (by decide) (by decide) (by decide) ?_ (by decide+kernel) ?_
 ·intro r hr
  simp at hr
  rcases hr with rfl|rfl|rfl
  ·exact zJ
  ·exact Vz
  ·exact KI
 ·intro r hr
  simp at hr
  rcases hr with rfl|rfl|rfl
  ·decide+kernel
  ·decide+kernel
  ·decide+kernel
theorem BA:oH 11864636873:=by
 refine wG 11864636873 5 34 [2,2,2,11,17,7930907] (by decide) (by decide) (by decide) ?_ (by decide+kernel) ?_
 ·intro r hr
  simp at hr
  rcases hr with rfl|rfl|rfl|rfl
  ·exact zJ
  ·exact Vx
  ·exact Vy
  ·exact Jf
 ·intro r hr
  simp at hr
  rcases hr with rfl|rfl|rfl|rfl
  ·decide+kernel
  ·decide+kernel
  ·decide+kernel
  ·decide+kernel
theorem AA:oH 1732236983459:=by
 refine wG 1732236983459 2 41 [2,73,11864636873] (by decide) (by decide) (by decide) ?_ (by decide+kernel) ?_
 ·intro r hr
  simp at hr
  rcases hr with rfl|rfl|rfl
  ·exact zJ
  ·exact VA
  ·exact BA
 ·intro r hr
  simp at hr
  rcases hr with rfl|rfl|rfl
  ·decide+kernel
  ·decide+kernel
  ·decide+kernel
theorem yx:oH 249442125618097:=by
 refine wG 249442125618097 5 48 [2,2,2,2,3,3,1732236983459] (by decide) (by decide) (by decide) ?_ (by decide+kernel) ?_
 ·intro r hr
  simp at hr
  rcases hr with rfl|rfl|rfl
  ·exact zJ
  ·exact QO
  ·exact AA
 ·intro r hr
  simp at hr
  rcases hr with rfl|rfl|rfl
  ·decide+kernel
  ·decide+kernel
  ·decide+kernel
theorem vv:oH 2305843009213688669:=by
 refine wG 2305843009213688669 2 61 [2,2,2311,249442125618097] (by decide) (by decide) (by decide) ?_ (by decide+kernel) ?_
 ·intro r hr
  simp at hr
  rcases hr with rfl|rfl|rfl
  ·exact zJ
  ·exact Pf
  ·exact yx
 ·intro r hr
  simp at hr
  rcases hr with rfl|rfl|rfl
  ·decide+kernel
  ·decide+kernel
  ·decide+kernel
def q:Nat:=2305843009213688669
def M:Nat:=4611686018427377339
theorem aex:q=2305843009213688669:=Z
theorem ZK:oH q:=vv
theorem Mw:0<q:=by decide
theorem Gw:1<M:=by decide
def pw (a n:Nat):Nat:=pm M 64 a n 1
theorem Mx (a n:Nat)(h:n<18446744073709551616):pw a n=a^n%M:=by
 have c:n<2^64:=by rw[show(2:Nat)^64=18446744073709551616 by decide];exact h
 rw[pw,Mt M 64 a n 1 c Gw,Nat.one_mul]
theorem aey (a n:Nat)(h:n<18446744073709551616):pw a n<M:=by rw[Mx a n h];exact Nat.mod_lt _ (by decide)
theorem step1 (a n out:Nat)(h:n%2=1):(out*a%M)*(a*a%M)^(n/2)%M=out*a^n%M:=by
 have e:a^n=a*(a*a)^(n/2):=by
  have c:n=2*(n/2)+1:=by omega
  conv=>lhs;rw[c]
  rw[Nat.pow_succ,Nat.pow_mul,Nat.pow_two,Nat.mul_comm]
 rw[e,Nat.mul_mod,Nat.mod_mod,<-Nat.pow_mod,<-Nat.mul_mod,Nat.mul_assoc]
theorem step0 (a n out:Nat)(h:¬n%2=1):out*(a*a%M)^(n/2)%M=out*a^n%M:=by
 have e:a^n=(a*a)^(n/2):=by
  have c:n=2*(n/2):=by omega
  conv=>lhs;rw[c]
  rw[Nat.pow_mul,Nat.pow_two]
 rw[e,Nat.mul_mod,<-Nat.pow_mod,<-Nat.mul_mod]
theorem MB (a n:Nat)(h:n<18446744073709551616):1*a^n%M=pw a n:=by rw[Mx a n h,Nat.one_mul]
theorem VB (a out:Nat)(h:out<M):out*a^0%M=out:=by rw[Nat.pow_zero,Nat.mul_one,Nat.mod_eq_of_lt h]
theorem aez:q<18446744073709551616:=by decide
def right (p:Nat):Bool:=decide (0<p)&&decide (p<M)&&decide (pw p q=1)
theorem oP (p:Nat):right p=true↔0<p/\p<M/\p^q%M=1:=by
 unfold right
 rw[Mx p q aez]
 simp[and_assoc]
def taken (p:Nat):Nat:=if right p then p else 1
def scale (p k:Nat):Nat:=pw (taken p) (k%q)
def base (k:Nat):Nat:=scale 4 k
def Fw (a b:Nat):Nat:=(a%q)*(b%q)%q
def lq (a b:Nat):Nat:=(a%q+b%q)%q
def tY (a b:Nat):Nat:=taken a*taken b%M
theorem wH:right 1=true:=by decide+kernel
theorem Pg:right 4=true:=by decide+kernel
theorem vD (p:Nat):right (taken p)=true:=by
 unfold taken
 split
 ·assumption
 ·exact wH
theorem nZ {p:Nat}(h:right p=true):taken p=p:=by rw[taken,if_pos h]
theorem QP {p:Nat}(h:right p=true):p^q%M=1:=((oP p).1 h).2.2
theorem Ta {p:Nat}(h:right p=true)(k:Nat):p^(k%q)%M=p^k%M:=by
 have e:k=q*(k/q)+k%q:=(Nat.div_add_mod k q).symm
 conv=>rhs;rw[e]
 rw[Nat.pow_add,Nat.pow_mul,Nat.mul_mod,Nat.pow_mod (p^q),QP h,Nat.one_pow,Nat.mod_eq_of_lt Gw,Nat.one_mul,Nat.mod_mod]
theorem Tc {p:Nat}(h:right p=true)(k:Nat):right (p^k%M)=true:=by
 rw[oP]
 have c:(p^k%M)^q%M=1:=by
  rw[<-Nat.pow_mod,<-Nat.pow_mul,Nat.mul_comm,Nat.pow_mul,Nat.pow_mod,QP h,Nat.one_pow,Nat.mod_eq_of_lt Gw]
 refine⟨?_,Nat.mod_lt _ (by decide),c⟩
 rcases Nat.eq_zero_or_pos (p^k%M)with d|d
 ·rw[d,Nat.zero_pow Mw]at c
  simp at c
 ·exact d
theorem Gy (k:Nat):k%q<18446744073709551616:=Nat.lt_trans (Nat.mod_lt _ Mw) aez
theorem rM (p k:Nat):scale p k=taken p^k%M:=by
 rw[scale,Mx _ _ (Gy k),Ta (vD p)]
theorem VC (p k:Nat):scale p k<M:=by rw[rM];exact Nat.mod_lt _ (by decide)
theorem EM (p k:Nat):right (scale p k)=true:=by rw[rM];exact Tc (vD p) k
theorem yK (p a b:Nat):scale (scale p a) b=scale p (a*b):=by
 rw[rM (scale p a),nZ (EM p a),rM,rM,<-Nat.pow_mod,<-Nat.pow_mul]
theorem Jv (p k:Nat):scale p (k%q)=scale p k:=by rw[scale,scale,Nat.mod_mod]
theorem ZL (a b:Nat):Fw a b=a*b%q:=by rw[Fw,<-Nat.mul_mod]
theorem ZM (a b:Nat):lq a b=(a+b)%q:=by rw[lq,<-Nat.add_mod]
theorem Ph (p a b:Nat):scale p (Fw a b)=scale (scale p a) b:=by rw[ZL,Jv,yK]
theorem jC (k:Nat):right (base k)=true:=EM 4 k
theorem Pj (x k:Nat):scale (base x) k=scale (base k) x:=by
 rw[base,base,yK,yK,Nat.mul_comm]
theorem Td {p:Nat}(h:right p=true)(h1:p≠1)(hk:k%q≠0):scale p k≠1:=by
 rw[rM,nZ h]
 intro he
 obtain⟨d,_,⟨f,c⟩,hl⟩:=least (p:=fun k=>0<k/\p^k%M=1) q ⟨Mw,QP h⟩
 have hl':∀j,j<d->0<j->¬p^j%M=1:=fun j hj i h=>hl j hj ⟨i,h⟩
 have hdq:d∣q:=Dn Gw c (QP h) hl' f
 have hdk:d∣k:=Dn Gw c he hl' f
 rcases ZK.2 d hdq with e|e
 ·subst e
  rw[Nat.pow_one,Nat.mod_eq_of_lt ((oP p).1 h).2.1]at c
  exact h1 c
 ·subst e
  exact hk (Nat.dvd_iff_mod_eq_zero.1 hdk)
theorem yL (hk:k%q≠0):base k≠1:=Td Pg (by decide) hk
theorem Te (a b:Nat):tY (base a) (base b)=base (lq a b):=by
 rw[tY,nZ (jC a),nZ (jC b),base,base,base,ZM,Jv,rM,rM,rM,<-Nat.mul_mod,Nat.pow_add]
def ku (n:Nat):List (BitVec 8)->Nat
 |[]=>n
 |b::l=>ku ((256*n+b.toNat)%(q-1)) l
def kD (l:List (BitVec 8)):Nat:=ku 0 l+1
theorem zK:∀(l:List (BitVec 8)) (n:Nat),n<q-1->ku n l<q-1
 |[],_,h=>h
 |_::l,_,_=>zK l _ (Nat.mod_lt _ (by decide))
theorem MC (l:List (BitVec 8)):kD l<q:=by
 have:=zK l 0 (by decide)
 have:=Mw
 unfold kD;omega
theorem wI (l:List (BitVec 8)):kD l%q≠0:=by rw[Nat.mod_eq_of_lt (MC l)];unfold kD;omega
theorem EN (l:List (BitVec 8))(k n:Nat)(b:BitVec 8)(h:l[k]? =some b):ku n (l.take (k+1))=(256*ku n (l.take k)+b.toNat)%(q-1):=by
 have ap:∀(l m:List (BitVec 8)) (n:Nat),ku n (l++m)=ku (ku n l) m:=by
  intro l
  induction l with
  |nil=>intro m n;rfl
  |cons c l ih=>intro m n;exact ih m _
 rw[List.take_add_one,h,ap]
 rfl
end Go.Num
namespace Go.KJ
open Go.Fv Go.Num
abbrev Stop:=Nat×List Byte
def put (r f:List Byte):List Byte:=r.take (r.length-f.length)++f
theorem ag3:M<18446744073709551616:=by decide
theorem FV (k:Nat):base k<18446744073709551616:=Nat.lt_trans ((oP _).1 (jC k)).2.1 ag3
end Go.KJ
namespace Go.Fv
end Go.Fv
namespace Go.KJ
open Go.Fv Go.Num
theorem getD_lt {l:List Nat}{b:Nat}(h:∀x∈l,x<b)(hb:0<b)(i:Nat):l.getD i 0<b:=by
 rw[List.getD_eq_getElem?_getD]
 cases e:l[i]? with
 |none=>exact hb
 |some x=>exact h x (List.mem_of_getElem? e)
end Go.KJ
namespace Go.Gz
open Go.KJ
structure Pol where
 b:Int
 p:Int
 d:Int
 l:Int
 m:Int
deriving DecidableEq
structure Edge where
 f:Int
 t:Int
 c:Int
 r:Int
 FW:Pol
deriving DecidableEq
def aeA:Pol:=⟨0,0,0,0,0⟩
def lL:Edge:=⟨0,0,0,0,aeA⟩
def l7 (n lo hi:Int):Bool:=decide (lo<=n/\n<=hi)
def ME (p:Pol):Bool:=l7 p.b 0 1125899906842624&&l7 p.l 0 p.m&&l7 p.m 0 1125899906842624&&l7 p.p 0 1000000&&l7 p.d 0 1048576
def edgeOk (e:Edge):Bool:=l7 e.f 0 11&&l7 e.t 0 11&&decide (e.f≠e.t)&&l7 e.c 0 39&&l7 e.r 1 1125899906842624&&ME e.FW
def vE (a:Int):Bool:=l7 a 0 1125899906842624
def pI (a b:Int):Int×Bool:=if vE a&&vE b&&decide (a<=1125899906842624-b)then(a+b,true)else(0,false)
def abW (a num:Int):Int×Bool:=if vE a&&decide (0<=num)&&decide (a*num/1000000<=1125899906842624)then(a*num/1000000,true)else(0,false)
def KL (p:Pol)(a:Int):Int×Bool:=if(abW a p.p).2&&ME p then pI p.b (abW a p.p).1 else(0,false)
def pJ (a b:Int):Int:=if a<b then-1 else if b<a then 1 else 0
def ag4 (a b:Edge):Int:=if pJ a.c b.c≠0 then pJ a.c b.c else pJ a.f b.f
def KM (l:List Edge)(i:Nat):Prop:=
 edgeOk (l.getD i lL)=true/\(0<i->ag4 (l.getD (i-1) lL) (l.getD i lL)<0)/\
  ((0<i/\(l.getD (i-1) lL).c=(l.getD i lL).c)->¬(1<i/\(l.getD (i-2) lL).c=(l.getD i lL).c)/\(l.getD (i-1) lL).f=(l.getD i lL).t/\(l.getD (i-1) lL).t=(l.getD i lL).f/\(l.getD (i-1) lL).r=(l.getD i lL).r)
instance (l : List Edge) (i : Nat) : Decidable (KM l i) := by unfold KM; infer_instance
def VD (l:List Edge):Prop:=∀i,i<l.length->KM l i
instance (l : List Edge) : Decidable (VD l) := by unfold VD; infer_instance
def QQ (l:List Edge)(i:Nat):Prop:=edgeOk (l.getD i lL)=true/\(0<i->(l.getD (i-1) lL).t=(l.getD i lL).f)/\∀k,k<=i->(l.getD k lL).f≠(l.getD i lL).t
instance (l : List Edge) (i : Nat) : Decidable (QQ l i) := by unfold QQ; infer_instance
def ZN (l:List Edge):Prop:=(1<=l.length/\l.length<=8)/\∀i,i<l.length->QQ l i
instance (l : List Edge) : Decidable (ZN l) := by unfold ZN; infer_instance
def aeB (l:List Edge):Bool:=decide (ZN l)
def rO (e:Edge)(a x:Int):Option (Int×Int):=if(KL e.FW a).2&&(pI a (KL e.FW a).1).2 then some (a+(KL e.FW a).1,x+e.FW.d)else none
theorem sH {n lo hi:Int}(h:l7 n lo hi=true):lo<=n/\n<=hi:=of_decide_eq_true h
theorem ZO {p:Pol}(h:ME p=true):(0<=p.b/\p.b<=1125899906842624)/\(0<=p.l/\p.l<=p.m)/\(0<=p.m/\p.m<=1125899906842624)/\(0<=p.p/\p.p<=1000000)/\0<=p.d/\p.d<=1048576:=by
 simp only[ME,Bool.and_eq_true]at h
 exact⟨sH h.1.1.1.1,sH h.1.1.1.2,sH h.1.1.2,sH h.1.2,sH h.2⟩
theorem VE {e:Edge}(h:edgeOk e=true):(0<=e.f/\e.f<=11)/\(0<=e.t/\e.t<=11)/\e.f≠e.t/\(0<=e.c/\e.c<=39)/\(1<=e.r/\e.r<=1125899906842624)/\ME e.FW=true:=by
 simp only[edgeOk,Bool.and_eq_true,decide_eq_true_eq]at h
 exact⟨sH h.1.1.1.1.1,sH h.1.1.1.1.2,h.1.1.1.2,sH h.1.1.2,sH h.1.2,h.2⟩
variable {a x am ex er:Int}{l:List (Int×Int)}{xs:List Edge}{j:Nat}
theorem VF {b:Int}(h:(pI a b).2=true):(pI a b).1=a+b/\0<=a+b/\a+b<=1125899906842624:=by
 unfold pI at*
 split at h
 ·rename_i hc
  simp only[vE,Bool.and_eq_true,decide_eq_true_eq]at hc
  have c:=sH hc.1.1
  have d:=sH hc.1.2
  exact⟨by rw[if_pos (by simp[vE,hc])],by omega,by omega⟩
 ·cases h
theorem ZP (h:aeB xs=true){i:Nat}(hi:i<xs.length):QQ xs i:=(of_decide_eq_true h:ZN xs).2 i hi
variable {a x:Int}
structure abY (w:List Edge)(a x:Int)(S T:List Int):Prop where
 way:aeB w=true
 Dp:1<=a/\a<=1125899906842624
 exp:1<=x/\x<=1048576
 aiD:S.length=w.length
 aiE:T.length=w.length
 len:1<=w.length/\w.length<=8
 room:∀i,i<w.length->((w.getD i lL).FW.l<=S.getD i 0/\S.getD i 0<=(w.getD i lL).FW.m/\S.getD i 0<=(w.getD i lL).r)/\T.getD i 0<=1048576
 qD:S.getD (w.length-1) 0=a
 ag5:T.getD (w.length-1) 0=x
 step:∀i,i+1<w.length->(KL (w.getD (i+1) lL).FW (S.getD (i+1) 0)).2=true/\(pI (S.getD (i+1) 0) (KL (w.getD (i+1) lL).FW (S.getD (i+1) 0)).1).2=true/\S.getD i 0=S.getD (i+1) 0+(KL (w.getD (i+1) lL).FW (S.getD (i+1) 0)).1/\T.getD i 0=T.getD (i+1) 0+(w.getD (i+1) lL).FW.d
theorem Pk (p:Pol)(am:Int):0<=(KL p am).1/\(KL p am).1<=1125899906842624:=by
 unfold KL
 split
 ·unfold pI
  split
  ·rename_i hc
   simp only[vE,Bool.and_eq_true,decide_eq_true_eq]at hc
   have c:=sH hc.1.1
   have d:=sH hc.1.2
   show 0<=_+_/\_+_<=_
   omega
  ·show(0:Int)<=0/\(0:Int)<=_
   omega
 ·show(0:Int)<=0/\(0:Int)<=_
  omega
variable {a x:Int}
theorem abY.ge {w:List Edge}{S T:List Int}(h:abY w a x S T):∀d i,i+d+1=w.length->a<=S.getD i 0/\x<=T.getD i 0:=by
 intro d
 induction d with
 |zero=>intro i hi;have c:=h.qD;have e:=h.ag5;rw[show w.length-1=i by omega]at c e;omega
 |succ d ih=>
  intro i hi
  have c:=ih (i+1) (by omega)
  obtain⟨s1,f,j,k⟩:=h.step i (by omega)
  have hf:=Pk (w.getD (i+1) lL).FW (S.getD (i+1) 0)
  have hok:=VE (ZP h.way (i:=i+1) (by omega)).1
  have hp:=ZO hok.2.2.2.2.2
  omega
open Go.Num
structure mF where
 fr:Int
 id:Int
 am:Int
 pt:Nat
 ex:Int
deriving DecidableEq
def ag:mF:=⟨0,0,0,0,0⟩
end Go.Gz
namespace Go.Lsp
open Go.Gz Go.Num
structure Seat where
 ch:Int
 p0:Int
 p1:Int
 h0:Int
 h1:Int
deriving DecidableEq
def iB:Seat:=⟨0,0,0,0,0⟩
structure yz where
 am:Int
 pt:Nat
deriving DecidableEq
def xF:yz:=⟨0,0⟩
structure kI where
 ch:Int
 side:Int
 id:Int
deriving DecidableEq
def acV:kI:=⟨0,0,0⟩
structure Bc where
 ch:Int
 side:Int
 am:Int
deriving DecidableEq
def iK:Bc:=⟨0,0,0⟩
def Seat.p (s:Seat)(i:Nat):Int:=if i=0 then s.p0 else s.p1
def Seat.h (s:Seat)(i:Nat):Int:=if i=0 then s.h0 else s.h1
def Seat.setH (s:Seat)(i:Nat)(v:Int):Seat:=if i=0 then{s with h0:=v}else{s with h1:=v}
def og (n:Int):Bool:=decide (0<=n/\n<=1125899906842624)
def yM (n:Nat)(s:Seat):Prop:=(0<=s.p0/\s.p0<n/\0<=s.h0/\s.h0<=1125899906842624)/\(0<=s.p1/\s.p1<n/\0<=s.h1/\s.h1<=1125899906842624)/\0<=s.ch/\s.ch<40/\s.p0≠s.p1
instance aeC (n : Nat) (s : Seat) : Decidable (yM n s) := by unfold yM; infer_instance
variable {n:Nat}{s:Seat}
theorem wJ:yM n s↔(∀i,i<2->0<=s.p i/\s.p i<n/\0<=s.h i/\s.h i<=1125899906842624)/\0<=s.ch/\s.ch<40/\s.p0≠s.p1:=by
 unfold yM
 constructor
 ·rintro⟨d,e,c⟩
  refine⟨fun i hi=>?_,c⟩
  have:i=0\/i=1:=by omega
  rcases this with rfl|rfl
  ·exact d
  ·exact e
 ·rintro⟨h,c⟩
  exact⟨h 0 (by omega),h 1 (by omega),c⟩
theorem Tf {a b:List Int}(h:a.Perm b):a.sum=b.sum:=by
 induction h with
 |nil=>rfl
 |cons x _ ih=>simp[ih]
 |swap x y l=>simp;omega
 |trans _ _ h1 h2=>exact h1.trans h2
section
variable {κ β:Type}
def j6 (f:κ->β->Int)(l:List (Nat×κ×β)):Int:=(l.map fun x=>f x.2.1 x.2.2).sum
theorem MF (f:κ->β->Int):j6 f []=0:=Z
theorem jb (f:κ->β->Int)(x:Nat×κ×β)(l:List (Nat×κ×β)):j6 f (x::l)=f x.2.1 x.2.2+j6 f l:=Z
variable {f:κ->β->Int}
theorem uJ {a b:List (Nat×κ×β)}(h:a.Perm b):j6 f a=j6 f b:=by
 unfold j6
 exact Tf (h.map _)
theorem lM:∀{l:List (Nat×κ×β)},(∀x∈l,0<=f x.2.1 x.2.2)->0<=j6 f l
 |[],_=>by simp[j6]
 |x::l,h=>by
  have h1:=lM (l:=l) (fun y hy=>h y (List.mem_cons_of_mem _ hy))
  have c:=h x List.mem_cons_self
  rw[jb]
  omega
end
def oo (ch side:Int)(k:kI)(h:yz):Int:=if k.ch=ch/\k.side=side then h.am else 0
abbrev HM:=List (Nat×kI×yz)
abbrev SM:=List (Nat×Int×Seat)
def jA (lh:HM)(ch side:Int):Int:=j6 (oo ch side) lh
def l8 (lh:HM)(party:Int)(ch:Int)(s:Seat):Int:=(if s.p0=party then s.h0+jA lh ch 0 else 0)+(if s.p1=party then s.h1+jA lh ch 1 else 0)
def uN (own:List Int)(party:Int):Int:=if 0<=party/\party<own.length then own.getD party.toNat 0 else 0
def mG (own:List Int)(ls:SM)(lh:HM)(party:Int):Int:=uN own party+j6 (l8 lh party) ls
structure rP where
 own:List Int
 ls:SM
 cs:Nat
 lh:HM
 ck:Nat
 lost:Int
deriving DecidableEq
def rf (own:List Int)(s:Seat)(j:Nat)(am fee:Int):List Int:=own.set (s.p j).toNat (own.getD (s.p j).toNat 0-(am+fee))
theorem rq (own:List Int)(s:Seat)(j:Nat)(am fee:Int):(rf own s j am fee).length=own.length:=by simp[rf]
variable {k:Nat}
theorem GA {own:List Int}{j:Nat}{am fee:Int}(h0:0<=s.p j)(h1:0<=s.p k)(hn:s.p j≠s.p k):(rf own s j am fee).getD (s.p k).toNat 0=own.getD (s.p k).toNat 0:=by
 unfold rf
 rw[List.getD_eq_getElem?_getD,List.getElem?_set_ne (by omega),<-List.getD_eq_getElem?_getD]
variable {κ β:Type}
def oJ [DecidableEq κ](key:κ)(u:β)(l:List (Nat×κ×β)):List (Nat×κ×β):=l.map fun y=>if y.2.1=key then(y.1,key,u)else y
def tJ [DecidableEq κ](key:κ)(l:List (Nat×κ×β)):List (Nat×κ×β):=l.filter fun y=>decide (y.2.1≠key)
theorem VG [DecidableEq κ]{key:κ}{z u:β}{l:List (Nat×κ×β)}{b:Nat}(h:∀x∈l,x.2.1≠key):oJ key u (l++[(b,key,z)])=l++[(b,key,u)]:=by
 unfold oJ
 rw[List.map_append]
 have:(l.map fun y=>if y.2.1=key then(y.1,key,u)else y)=l.map id:=List.map_congr_left fun y hy=>by rw[if_neg (h y hy)];rfl
 rw[this,List.map_id]
 simp
def zL (side id am:Int)(pt:Nat):Prop:=(0<=side/\side<=1)/\1<=id/\(1<=am/\am<=1125899906842624)/\pt≠1/\right pt=true
def BB (own:List Int):Prop:=(1<=own.length/\own.length<=12)/\(∀x∈own,0<=x)/\own.sum<=1125899906842624
instance aej (own : List Int) : Decidable (BB own) := by unfold BB; infer_instance
theorem tK:∀(l:List Int),(∀x∈l,0<=x)->∀k,0<=(l.take k).sum/\(l.take k).sum<=l.sum
 |[],_,k=>by simp
 |x::l,h,0=>by
  have h1:=tK l (fun y hy=>h y (List.mem_cons_of_mem _ hy)) l.length
  rw[List.take_length]at h1
  have c:=h x List.mem_cons_self
  simp only[List.take_zero,List.sum_nil,List.sum_cons]
  omega
 |x::l,h,k+1=>by
  have h1:=tK l (fun y hy=>h y (List.mem_cons_of_mem _ hy)) k
  have c:=h x List.mem_cons_self
  simp only[List.take_succ_cons,List.sum_cons]
  omega
theorem qK {l:List Int}(h:k<l.length):(l.take (k+1)).sum=(l.take k).sum+l.getD k 0:=by
 rw[List.take_add_one,List.sum_append]
 simp[h]
theorem KN {own:List Int}(hk:k<own.length)(h:(pI (own.take k).sum (own.getD k 0)).2=false):¬BB own:=by
 rintro⟨_,c,e⟩
 have f:=tK own c k
 have d:=tK own c (k+1)
 rw[qK hk]at d
 have i:0<=own.getD k 0:=c _ (by rw[List.getD_eq_getElem?_getD,List.getElem?_eq_getElem hk];exact List.getElem_mem hk)
 unfold pI at h
 rw[if_pos]at h
 ·cases h
 ·simp[vE,l7,-List.getD_eq_getElem?_getD]
  omega
theorem GD {own:List Int}(hk:k<own.length)(hn:∀j,j<k->0<=own.getD j 0)(h:(pI (own.take k).sum (own.getD k 0)).2=true):(pI (own.take k).sum (own.getD k 0)).1=(own.take (k+1)).sum/\(own.take (k+1)).sum<=1125899906842624/\∀j,j<k+1->0<=own.getD j 0:=by
 have c:=VF h
 rw[qK hk]
 refine⟨c.1,c.2.2,fun j hj=>?_⟩
 by_cases e:j=k
 ·subst e
  unfold pI at h
  split at h
  ·rename_i hc
   simp only[vE,Bool.and_eq_true]at hc
   exact(sH hc.1.2).1
  ·cases h
 ·exact hn j (by omega)
def vF (g:Bc):Prop:=(0<=g.side/\g.side<=1)/\1<=g.am/\g.am<=1125899906842624
instance aek (g : Bc) : Decidable (vF g) := by unfold vF; infer_instance
def MG (s:Seat)(g:Bc):Seat:=(s.setH g.side.toNat (s.h g.side.toNat-g.am)).setH (1-g.side).toNat ((s.setH g.side.toNat (s.h g.side.toNat-g.am)).h (1-g.side).toNat+g.am)
structure jw where
 a:Int
 b:Int
deriving DecidableEq
def qY:jw:=⟨0,0⟩
def jw.ix (d:jw)(i:Nat):Int:=if i=0 then d.a else d.b
def abZ (own:List Int)(s:Seat)(fee:jw):Nat->List Int
 |0=>own
 |k+1=>rf (abZ own s fee k) s k (-s.h k) (fee.ix k)
def yg (lost:Int)(fee:jw):Nat->Int
 |0=>lost
 |k+1=>yg lost fee k+fee.ix k
def tZ (own:List Int)(ls:SM)(lh:HM)(k:Nat):Int:=((List.range k).map fun(i:Nat)=>mG own ls lh (i:Int)).sum
theorem EO (own:List Int)(ls:SM)(lh:HM)(k:Nat):tZ own ls lh (k+1)=tZ own ls lh k+mG own ls lh (k:Int):=by
 unfold tZ
 rw[List.range_succ,List.map_append,List.sum_append]
 simp
variable {fee:jw}
theorem VH {lost:Int}(hk:k<=2)(h:0<=lost/\lost<=1125899906842624)(ha:0<=fee.a/\fee.a<=1125899906842624)(hb:0<=fee.b/\fee.b<=1125899906842624):0<=yg lost fee k/\yg lost fee k<=1125899906842624*(k+1):=by
 have:k=0\/k=1\/k=2:=by omega
 rcases this with rfl|rfl|rfl
 ·simp[yg];omega
 ·simp[yg,jw.ix];omega
 ·simp[yg,jw.ix];omega
def o7 (n:Nat)(s:Seat):Prop:=(0<=s.p0/\s.p0<n)/\(0<=s.p1/\s.p1<n)/\s.p0≠s.p1/\(0<=s.h0/\s.h0<=1125899906842624)/\(0<=s.h1/\s.h1<=1125899906842624)
theorem jH (h:o7 n s){k:Nat}(hk:k<2):(0<=s.p k/\s.p k<n)/\0<=s.h k/\s.h k<=1125899906842624:=by
 obtain⟨a,b,c,d,e⟩:=h
 have:k=0\/k=1:=by omega
 rcases this with rfl|rfl
 ·exact⟨a,d⟩
 ·exact⟨b,e⟩
def qm (s:Seat)(d:jw):Nat->Seat
 |0=>s
 |k+1=>(qm s d k).setH k ((qm s d k).h k+d.ix k)
theorem GG (s:Seat)(i j:Nat)(v:Int):(s.setH i v).p j=s.p j:=by
 unfold Seat.setH
 by_cases h:i=0
 ·rw[if_pos h];rfl
 ·rw[if_neg h];rfl
theorem vU (s:Seat)(d:jw)(j:Nat):∀k,(qm s d k).p j=s.p j
 |0=>rfl
 |k+1=>by rw[qm,GG,vU s d j k]
variable {d:jw}
theorem KO (hk:k<2):(qm s d k).h k=s.h k:=by
 have:k=0\/k=1:=by omega
 rcases this with rfl|rfl<;>rfl
theorem yN {i:Nat}{v:Int}(hi:i<2):(s.setH i v).h i=v:=by
 have:i=0\/i=1:=by omega
 rcases this with rfl|rfl<;>rfl
def ZQ (own:List Int)(s:Seat)(d fee:jw):Nat->List Int
 |0=>own
 |k+1=>rf (ZQ own s d fee k) s k (d.ix k) (fee.ix k)
theorem KP (own:List Int)(s:Seat)(d fee:jw):∀k,(ZQ own s d fee k).length=own.length
 |0=>rfl
 |k+1=>by rw[ZQ,rq,KP own s d fee k]
theorem acW {own:List Int}(hk:k<2)(h0:0<=s.p 0)(h1:0<=s.p 1)(hn:s.p 0≠s.p 1):(ZQ own s d fee k).getD (s.p k).toNat 0=own.getD (s.p k).toNat 0:=by
 have:k=0\/k=1:=by omega
 rcases this with rfl|rfl
 ·rfl
 ·exact GA (j:=0) (k:=1) h0 h1 hn
def Pm (d fee:jw):Prop:=∀k,k<2->(-1125899906842624<=d.ix k/\d.ix k<=1125899906842624)/\0<=fee.ix k/\fee.ix k<=1125899906842624
def BC (own:List Int)(s:Seat)(d fee:jw)(k:Nat):Prop:=s.h k+d.ix k<0\/own.getD (s.p k).toNat 0<d.ix k+fee.ix k
end Go.Lsp
namespace Go.Fv
theorem Tg (a b c:Word):a&&&b^^^ ~~~a&&&c=c^^^a&&&(b^^^c):=by
 apply BitVec.eq_of_getLsbD_eq
 intro i hi
 simp only[BitVec.getLsbD_xor,BitVec.getLsbD_and,BitVec.getLsbD_not,hi,decide_true,Bool.true_and]
 cases a.getLsbD i<;>cases b.getLsbD i<;>cases c.getLsbD i<;>rfl
theorem ZR (a b c:Word):a&&&b^^^a&&&c^^^b&&&c=a&&&b|||c&&&(a|||b):=by
 apply BitVec.eq_of_getLsbD_eq
 intro i hi
 simp only[BitVec.getLsbD_xor,BitVec.getLsbD_and,BitVec.getLsbD_or]
 cases a.getLsbD i<;>cases b.getLsbD i<;>cases c.getLsbD i<;>rfl
theorem VI (x:Word)(k:Nat):x>>>k|||x<<<(32-k)=QN x k:=by rw[QN,BitVec.or_comm]
theorem Ti (b:List Byte)(k:Nat):ZH (b.drop k)=(b.getD k 0).setWidth 32<<<24|||(b.getD (k+1) 0).setWidth 32<<<16|||(b.getD (k+2) 0).setWidth 32<<<8|||(b.getD (k+3) 0).setWidth 32:=by
 simp only[ZH,List.getD_eq_getElem?_getD,List.getElem?_drop,Nat.add_zero]
def BD (b:List Byte):List Byte:=b++[128]++List.replicate (noughts b.length) 0++vB (8*b.length)
theorem MH (b:List Byte):(BD b).length=b.length+1+noughts b.length+8:=by simp[BD,iL];omega
theorem VJ (b:List Byte):(BD b).length%64=0:=by rw[MH,noughts];omega
theorem vV:∀(m:Nat) (h:List Word) (p t:List Byte),p.length=64*m->lK h (p++t)=lK (lK h p) t
 |0,h,p,t,hp=>by
  have:p=[]:=List.eq_nil_of_length_eq_zero (by omega)
  subst this
  rw[uM h [] (by simp)];rfl
 |m+1,h,p,t,hp=>by
  rw[tH h (p++t) (by simp;omega),tH h p (by omega),List.take_append_of_le_length (by omega),List.drop_append_of_le_length (by omega)]
  exact vV m _ _ t (by simp;omega)
theorem MI (m:Nat)(h:List Word)(p t:List Byte)(hp:p.length=64*m)(ht:t.length<64):lK h (p++t)=lK h p:=by
 rw[vV m h p t hp,uM _ t ht]
theorem ZT (b:List Byte):sum b=digest (lK first (BD b)):=by
 have hb:b=b.take (b.length-b.length%64)++b.drop (b.length-b.length%64):=(List.take_append_drop _ _).symm
 have hl:(b.take (b.length-b.length%64)).length=64*(b.length/64):=by rw[List.length_take];omega
 have e1:lK first b=lK first (b.take (b.length-b.length%64)):=by
  conv=>lhs;rw[hb]
  exact MI _ _ _ _ hl (by rw[List.length_drop];omega)
 have e2:BD b=b.take (b.length-b.length%64)++tail b:=by
  unfold BD tail
  rw[<-List.append_assoc,<-List.append_assoc,<-List.append_assoc,List.take_append_drop]
 rw[sum,e1,e2,vV _ _ _ _ hl]
end Go.Fv
namespace Go.yA
open Go.Fv Go.KJ Go.Num Go.Gz
structure BF where
 r:Nat
 s:Nat
deriving DecidableEq
structure Ad where
 e:Edge
 no:Int
 gone:Bool
 sg:BF
deriving DecidableEq
def iY:BF:=⟨0,0⟩
def acX:List Byte:=[115,105,103]
def Dq:List Byte:=[110,111,110,99,101]
def nAd:List Byte:=[97,100]
def vG (r p:Nat)(m:List Byte):Nat:=kD (tag acX [vB r,vB p,m])
def BG (k:Nat):Bool:=decide (k<q)&&decide (k≠0)
def sK (k:Nat)(m:List Byte):Nat:=kD (tag Dq [vB k,m])
def Tj (k n:Nat)(m:List Byte)(t:Nat):BF:=⟨tY (base n) t,lq n (Fw (vG (tY (base n) t) (base k) m) k)⟩
def nR (k:Nat)(m:List Byte):BF:=if BG k then Tj k (sK k m) m 1 else iY
def Jg (l:List Nat):Nat:=l.foldl (fun o p=>o*taken p%M) 1
def MJ (p:Nat):Nat:=pw (taken p) (q-1)
def jX (p:Nat)(m:List Byte)(t:Nat)(s:BF):Bool:= !decide (p=1)&&right p&&right t&&right s.r&&decide (s.s<q)&&decide (base s.s=Jg [s.r,scale p (vG s.r p m),MJ t])
def nN (p:Nat)(m:List Byte)(s:BF):Bool:=jX p m 1 s
def aeD (e:Edge):Bool:=l7 e.f 0 11&&l7 e.t 0 11&&decide (e.f≠e.t)&&l7 e.c 0 39&&l7 e.r 1 1125899906842624&&l7 e.FW.b 0 1125899906842624&&l7 e.FW.p 0 1000000&&l7 e.FW.d 1 4096&&l7 e.FW.l 1 e.FW.m&&decide (e.FW.m<=e.r)
def ag6 (e:Edge)(no:Int):Bool:=aeD e&&l7 no 1 1048576
def jF (n:Nat):List Byte:=if h:n<128 then[BitVec.ofNat 8 n]else BitVec.ofNat 8 (n%128+128)::jF (n/128)
termination_by n
decreasing_by omega
def acY (e:Edge)(no:Int)(gone:Bool):List Int:=[e.f,e.t,e.c,e.r,e.FW.b,e.FW.p,e.FW.d,e.FW.l,e.FW.m,no,if gone then 1 else 0]
def ab0:List Int->List Byte
 |[]=>[]
 |n::l=>jF n.toNat++ab0 l
def vw (e:Edge)(no:Int)(gone:Bool):List Byte:=if ag6 e no then tag nAd [ab0 (acY e no gone)]else List.replicate 32 0
theorem sH {n lo hi:Int}:l7 n lo hi=true↔lo<=n/\n<=hi:=by simp[l7]
variable {k:Nat}
theorem acZ (h:BG k=true):k<q/\k≠0:=by simpa[BG]using h
theorem VK {p:Nat}(h:right p=true):tY p 1=p:=by
 rw[tY,nZ h,nZ wH,Nat.mul_one]
 exact Nat.mod_eq_of_lt ((oP p).1 h).2.1
theorem VL:MJ 1=1:=by
 unfold MJ;rw[nZ wH,Mx _ _ (by decide),Nat.one_pow];rfl
theorem VM (c k:Nat):base (Fw c k)=scale (base k) c:=by
 rw[base,Ph];exact Pj c k
theorem GH (h:BG k=true)(m:List Byte):nN (base k) m (nR k m)=true:=by
 obtain⟨c,d⟩:=acZ h
 have hb:base k≠1:=yL (by rw[Nat.mod_eq_of_lt c];exact d)
 unfold nN nR
 rw[if_pos h]
 unfold jX Tj
 rw[VK (jC _)]
 have e:base (lq (sK k m) (Fw (vG (base (sK k m)) (base k) m) k))=Jg [base (sK k m),scale (base k) (vG (base (sK k m)) (base k) m),MJ 1]:=by
  rw[<-Te,VM,VL,Jg]
  simp only[List.foldl]
  rw[tY,nZ wH,Nat.mul_one,Nat.one_mul,Nat.mod_mod,Nat.mod_mul_mod]
 have hs:lq (sK k m) (Fw (vG (base (sK k m)) (base k) m) k)<q:=Nat.mod_lt _ Mw
 simp[hb,jC,wH,hs,e]
theorem ZU (nm p q r:List Byte):(kY nm [p,q,r]).length=32+nm.length+p.length+q.length+r.length:=by simp[kY,iL];omega
theorem jy (n:Nat)(h:n<18446744073709551616):(jF n).length<=10:=by
 have key:∀(k n:Nat),n<128^k->0<k->(jF n).length<=k:=by
  intro k
  induction k with
  |zero=>intro n h c;omega
  |succ k ih=>
   intro n h c
   rw[jF]
   split
   ·simp
   ·rw[List.length_cons]
    have hk:0<k:=by
     rcases Nat.eq_zero_or_pos k with e|e
     ·subst e;simp at h;omega
     ·exact e
    have:=ih (n/128) (by rw[Nat.pow_succ]at h;omega) hk
    omega
 exact key 10 n (by omega) (by decide)
end Go.yA
namespace Go.GJ
variable {α:Type}
structure SWO (lt:α->α->Bool):Prop where
 asym:∀{x y},lt x y=true->lt y x=false
 ntr:∀{x y z},lt x z=true->lt x y=true\/lt y z=true
variable {lt:α->α->Bool}
theorem SWO.irr (h:SWO lt)(x:α):lt x x=false:=by
 cases e:lt x x
 ·rfl
 ·have:=h.asym e;rw[e]at this;cases this
theorem SWO.le_trans (h:SWO lt){x y z:α}(h1:lt y x=false)(h2:lt z y=false):lt z x=false:=by
 cases e:lt z x
 ·rfl
 ·rcases h.ntr (y:=y) e with q|q
  ·rw[h2]at q;cases q
  ·rw[h1]at q;cases q
def eqv (lt:α->α->Bool)(x y:α):Bool:= !lt x y&& !lt y x
theorem aeE {x y:α}:eqv lt x y=true↔lt x y=false/\lt y x=false:=by simp[eqv]
theorem VN (h:SWO lt)(x:α):eqv lt x x=true:=aeE.2 ⟨h.irr x,h.irr x⟩
def Sorted (lt:α->α->Bool)(l:List α):Prop:=l.Pairwise fun x y=>lt y x=false
def GJ (lt:α->α->Bool)(xs zs:List α):Prop:=Sorted lt zs/\∀x,zs.filter (eqv lt x)=xs.filter (eqv lt x)
variable {xs:List α}
theorem GJ.refl (h:Sorted lt xs):GJ lt xs xs:=⟨h,fun _=>rfl⟩
variable {ys zs:List α}
theorem GJ.trans (h:∀x,ys.filter (eqv lt x)=xs.filter (eqv lt x))(k:GJ lt ys zs):GJ lt xs zs:=⟨k.1,fun x=>(k.2 x).trans (h x)⟩
theorem MK (hs:SWO lt){xs zs:List α}(h:∀x,zs.filter (eqv lt x)=xs.filter (eqv lt x)){y:α}(hy:y∈zs):y∈xs:=by
 have:y∈zs.filter (eqv lt y):=List.mem_filter.2 ⟨hy,VN hs y⟩
 rw[h y]at this
 exact(List.mem_filter.1 this).1
theorem GJ.mem (hs:SWO lt){xs zs:List α}(h:GJ lt xs zs){y:α}:y∈zs↔y∈xs:=⟨MK hs h.2,MK hs (fun x=>(h.2 x).symm)⟩
def Pn (a b:Nat)(xs:List α):List α:=(xs.drop a).take (b-a)
theorem seg_length {a b:Nat}(h:b<=xs.length):(Pn a b xs).length=b-a:=by simp[Pn];omega
variable {k:Nat}{d:α}
theorem GK {a b:Nat}(h:k<b-a):(Pn a b xs).getD k d=xs.getD (a+k) d:=by
 simp[Pn,List.getD,List.getElem?_take,List.getElem?_drop,h]
variable {m:Nat}
theorem seg_append {a b:Nat}(h1:a<=m)(h2:m<=b):Pn a b xs=Pn a m xs++Pn m b xs:=by
 unfold Pn
 rw[show b-a=(m-a)+(b-m) by omega,List.take_add,List.drop_drop,show a+(m-a)=m by omega]
theorem aeF (hl:xs.length=ys.length)(h:∀k,k<xs.length->xs.getD k d=ys.getD k d):xs=ys:=by
 apply List.ext_getElem hl
 intro k c e
 have:=h k c
 simpa[List.getD,c,e]using this
variable {a' b':Nat}
theorem ZV {a b:Nat}(hx:b<=xs.length)(hy:b'<=ys.length)(hl:b-a=b'-a')(h:∀k,k<b-a->xs.getD (a+k) d=ys.getD (a'+k) d):Pn a b xs=Pn a' b' ys:=by
 refine aeF (d:=d) (by rw[seg_length hx,seg_length hy,hl]) fun k hk=>?_
 rw[seg_length hx]at hk
 rw[GK hk,GK (by omega),h k hk]
def Po (lt:α->α->Bool)(d:α)(a b:Nat)(xs:List α):Prop:=∀i j,a<=i->i<j->j<b->lt (xs.getD j d) (xs.getD i d)=false
theorem QR {a b:Nat}(hb:b<=xs.length):Po lt d a b xs↔Sorted lt (Pn a b xs):=by
 unfold Sorted
 rw[List.pairwise_iff_getElem]
 have hl:=seg_length (a:=a) hb
 have hg:∀k (hk:k<(Pn a b xs).length),(Pn a b xs)[k]=xs.getD (a+k) d:=fun k hk=>by
  rw[<-GK (b:=b) (by omega)];simp[List.getD,hk]
 constructor
 ·intro h i j hi hj hij
  rw[hg i hi,hg j hj]
  exact h _ _ (by omega) (by omega) (by omega)
 ·intro h i j c e f
  have:=h (i-a) (j-a) (by omega) (by omega) (by omega)
  rw[hg _ (by omega),hg _ (by omega),show a+(i-a)=i by omega,show a+(j-a)=j by omega]at this
  exact this
theorem Po.sub {a b:Nat}(h:Po lt d a b xs)(h1:a<=a')(h2:b'<=b):Po lt d a' b' xs:=fun i j e c f=>h i j (by omega) c (by omega)
theorem Po.ac0 {a b:Nat}(h:Po lt d a b xs)(he:∀i,a<=i->i<b->ys.getD i d=xs.getD i d):Po lt d a b ys:=fun i j c f e=>by
 rw[he i c (by omega),he j (by omega) e];exact h i j c f e
structure Part (lt:α->α->Bool)(d:α)(a b:Nat)(xs ys:List α):Prop where
 len:ys.length=xs.length
 out:∀i,i<a\/b<=i->ys.getD i d=xs.getD i d
 ZW:GJ lt (Pn a b xs) (Pn a b ys)
theorem Part.srt {a b:Nat}(h:Part lt d a b xs ys)(hb:b<=xs.length):Po lt d a b ys:=(QR (by rw[h.len];exact hb)).2 h.ZW.1
theorem Part.refl {a b:Nat}(h:Po lt d a b xs)(hb:b<=xs.length):Part lt d a b xs xs:=⟨rfl,fun _ _=>rfl,.refl ((QR hb).1 h)⟩
def swp (d:α)(i j:Nat)(xs:List α):List α:=(xs.set i (xs.getD j d)).set j (xs.getD i d)
theorem KQ (d:α)(i j:Nat)(xs:List α):(swp d i j xs).length=xs.length:=by simp[swp]
variable {i j:Nat}
theorem ac1 (hi:i<xs.length)(hj:j<xs.length):(swp d i j xs).getD k d=if k=j then xs.getD i d else if k=i then xs.getD j d else xs.getD k d:=by
 unfold swp
 simp only[List.getD_eq_getElem?_getD,List.getElem?_set,List.length_set]
 by_cases c:j=k
 ·subst c;simp[hj]
 ·by_cases e:i=k
  ·subst e;simp[c,Ne.symm c,hi]
  ·simp[c,e,Ne.symm c,Ne.symm e]
def swR (d:α)(a b:Nat):Nat->List α->List α
 |0,xs=>xs
 |t+1,xs=>swp d (a+t) (b+t) (swR d a b t xs)
theorem BH (d:α)(a b:Nat)(xs:List α):∀t,(swR d a b t xs).length=xs.length
 |0=>rfl
 |t+1=>by rw[swR,KQ,BH d a b xs t]
theorem GL {d:α}{a b k:Nat}{xs:List α}:∀t,a+t<=b->b+t<=xs.length->(swR d a b t xs).getD k d=if a<=k/\k<a+t then xs.getD (b+(k-a)) d else if b<=k/\k<b+t then xs.getD (a+(k-b)) d else xs.getD k d
 |0,_,_=>by rw[swR,if_neg (by omega),if_neg (by omega)]
 |t+1,h1,h2=>by
  have ih:=fun k=>GL (d:=d) (k:=k) (xs:=xs) t (by omega:a+t<=b) (by omega)
  rw[swR,ac1 (by rw[BH];omega) (by rw[BH];omega),ih,ih,ih]
  repeat' split
  all_goals first|rfl|(exfalso;omega)|(congr 1;omega)
structure Rot (d:α)(a m b:Nat)(xs ys:List α):Prop where
 len:ys.length=xs.length
 at_:∀k,ys.getD k d=if a<=k/\k<a+(b-m)then xs.getD (m+(k-a)) d else if a+(b-m)<=k/\k<b then xs.getD (k-(b-m)) d else xs.getD k d
theorem Rot.step1 (hm:i<=m)(hl:m+j<=xs.length)(hij:j<i)(h:Rot d (m-(i-j)) m (m+j) (swR d (m-i) m j xs) ys):Rot d (m-i) m (m+j) xs ys:=by
 refine⟨by rw[h.len,BH],fun k=>?_⟩
 rw[h.at_ k,GL j (by omega) (by omega),GL j (by omega) (by omega),GL j (by omega) (by omega)]
 repeat' split
 all_goals first|rfl|(exfalso;omega)|(congr 1;omega)
theorem Rot.last (hm:i<=m)(hl:m+i<=xs.length):Rot d (m-i) m (m+i) xs (swR d (m-i) m i xs):=by
 refine⟨BH _ _ _ _ _,fun k=>?_⟩
 rw[GL i (by omega) (by omega)]
 repeat' split
 all_goals first|rfl|(exfalso;omega)|(congr 1;omega)
theorem Rot.none {a b:Nat}(h1:a<=m)(h2:m<=b)(h:¬(a<m/\m<b)):Rot d a m b xs xs:=by
 refine⟨rfl,fun k=>?_⟩
 repeat' split
 all_goals first|rfl|(exfalso;omega)|(congr 1;omega)
def xG (lt:α->α->Bool)(d:α)(a:Nat):Nat->List α->List α
 |0,xs=>xs
 |j+1,xs=>if a<j+1/\lt (xs.getD (j+1) d) (xs.getD j d)=true then xG lt d a j (swp d (j+1) j xs)else xs
theorem GM (d:α)(a:Nat):∀(j:Nat) (xs:List α),(xG lt d a j xs).length=xs.length
 |0,_=>rfl
 |j+1,xs=>by
  rw[xG]
  split
  ·rw[GM d a j,KQ]
  ·rfl
theorem Part.ja {a b:Nat}(h1:Part lt d a m xs ys)(h2:Part lt d a b ys zs)(hm:a<=m)(hb:m<=b)(hl:b<=xs.length):Part lt d a b xs zs:=by
 have e:=h1.len
 refine⟨by rw[h2.len,h1.len],fun i hi=>by rw[h2.out i hi,h1.out i (by omega)],h2.ZW.1,fun c=>?_⟩
 rw[h2.ZW.2 c,seg_append (xs:=ys) hm hb,seg_append (xs:=xs) hm hb,List.filter_append,List.filter_append,h1.ZW.2 c]
 rw[ZV (d:=d) (xs:=ys) (ys:=xs) (a:=m) (b:=b) (a':=m) (b':=b) (by omega) hl Z (fun k hk=>h1.out _ (.inr (by omega)))]
def KR (lt:α->α->Bool)(d:α)(a b i:Nat)(xs:List α):List α:=(List.range' i (b-i)).foldl (fun l i=>xG lt d a i l) xs
def kK (lt:α->α->Bool)(d:α)(a b:Nat)(xs:List α):List α:=KR lt d a b (a+1) xs
theorem VO {a b:Nat}(h:b<=i):KR lt d a b i xs=xs:=by unfold KR;rw[show b-i=0 by omega];rfl
theorem Jw {a b:Nat}(h:i<b):KR lt d a b i xs=KR lt d a b (i+1) (xG lt d a i xs):=by
 unfold KR
 rw[show b-i=(b-(i+1))+1 by omega,List.range'_succ]
 rfl
def ZX (lt:α->α->Bool)(d:α)(s n:Nat)(xs:List α):Prop:=∀k,Po lt d (k*s) (min (k*s+s) n) xs
def Half (lt:α->α->Bool)(d:α)(s K n:Nat)(xs:List α):Prop:=(∀k,k<K->Po lt d (k*(2*s)) (k*(2*s)+2*s) xs)/\∀k,2*K<=k->Po lt d (k*s) (min (k*s+s) n) xs
theorem BI (K s:Nat):K*(2*s)=2*K*s:=by rw[<-Nat.mul_assoc,Nat.mul_comm K 2]
variable {s n:Nat}
theorem Half.first (h:ZX lt d s n xs):Half lt d s 0 n xs:=⟨fun k hk=>by omega,fun k _=>h k⟩
variable {K:Nat}
theorem Half.left (h:Half lt d s K n xs)(hb:K*(2*s)+s<=n):Po lt d (K*(2*s)) (K*(2*s)+s) xs:=by
 have:=h.2 (2*K) (Nat.le_refl _)
 rw[<-BI,Nat.min_eq_left hb]at this
 exact this
theorem Half.right (h:Half lt d s K n xs):Po lt d (K*(2*s)+s) (min (K*(2*s)+2*s) n) xs:=by
 have:=h.2 (2*K+1) (by omega)
 rw[Nat.succ_mul,<-BI]at this
 rwa [show K*(2*s)+s+s=K*(2*s)+2*s by omega]at this
theorem Half.next (h:Half lt d s K n xs)(hb:K*(2*s)+2*s<=n)(hn:n<=xs.length)(p:Part lt d (K*(2*s)) (K*(2*s)+2*s) xs ys):Half lt d s (K+1) n ys:=by
 refine⟨fun k hk=>?_,fun k hk=>?_⟩
 ·by_cases e:k=K
  ·subst e;exact p.srt (by omega)
  ·have q:(k+1)*(2*s)<=K*(2*s):=Nat.mul_le_mul_right _ (by omega)
   rw[Nat.succ_mul]at q
   exact(h.1 k (by omega)).ac0 fun i c f=>p.out i (.inl (by omega))
 ·have q:(2*K+2)*s<=k*s:=Nat.mul_le_mul_right _ (by omega)
  rw[Nat.add_mul,<-BI]at q
  exact(h.2 k (by omega)).ac0 fun i c f=>p.out i (.inr (by omega))
theorem Half.done (h:Half lt d s K n xs)(ha:K*(2*s)<=n)(hb:n<K*(2*s)+2*s)(hn:n<=xs.length)(p:Part lt d (K*(2*s)) n xs ys):ZX lt d (2*s) n ys:=by
 intro k
 by_cases e:k=K
 ·subst e;rw[Nat.min_eq_right (by omega)];exact p.srt (by omega)
 ·by_cases e2:k<K
  ·have q:(k+1)*(2*s)<=K*(2*s):=Nat.mul_le_mul_right _ (by omega)
   rw[Nat.succ_mul]at q
   rw[Nat.min_eq_left (by omega)]
   exact(h.1 k e2).ac0 fun i c f=>p.out i (.inl (by omega))
  ·have q:(K+1)*(2*s)<=k*(2*s):=Nat.mul_le_mul_right _ (by omega)
   rw[Nat.succ_mul]at q
   exact fun i j c f l=>by omega
theorem Half.rest (h:Half lt d s K n xs)(ha:K*(2*s)<=n)(hm:n<=K*(2*s)+s)(hn:n<=xs.length):Part lt d (K*(2*s)) n xs xs:=by
 have:=h.2 (2*K) (Nat.le_refl _)
 rw[<-BI,Nat.min_eq_right hm]at this
 exact .refl this hn
theorem ZX.all (h:ZX lt d s n xs)(hs:n<=s):Po lt d 0 n xs:=by
 have:=h 0
 rw[Nat.zero_mul,Nat.zero_add,Nat.min_eq_right hs]at this
 exact this
end Go.GJ
namespace Go.Scp
open Go.Fv
def VP (s:List Byte)(k:Nat):List Byte:=s.set (k/8) (s.getD (k/8) 0^^^1#8<<<(k%8))
def uk (s:List Byte)(k p:Nat):List Byte:=if p/2^k%2=1 then sum (VP s k)else s
def kv (s:List Byte):Nat->Nat->List Byte
 |0,_=>s
 |k+1,p=>kv (uk s k p) k p
def Jy (s:List Byte)(h:Nat):Nat->Nat->List Byte
 |0,_=>s
 |d+1,p=>Jy (uk s (h+d) p) h d p
variable {s:List Byte}
theorem Tk (h:s.length=32)(k p:Nat):(uk s k p).length=32:=by
 unfold uk
 split
 ·exact mO _
 ·exact h
theorem lu:∀(h:Nat) {s:List Byte} (p:Nat),s.length=32->(kv s h p).length=32
 |0,_,_,hs=>hs
 |k+1,s,p,hs=>lu k p (Tk hs k p)
theorem Bd (h p:Nat):∀(d:Nat) (s:List Byte),kv s (h+d) p=kv (Jy s h d p) h p
 |0,_=>rfl
 |d+1,s=>Bd h p d (uk s (h+d) p)
theorem ML {h p q:Nat}(e:p/2^h=q/2^h):∀(d:Nat) (s:List Byte),Jy s h d p=Jy s h d q
 |0,_=>rfl
 |d+1,s=>by
  have e1:∀x,x/2^(h+d)=x/2^h/2^d:=fun x=>by rw[Nat.pow_add,Nat.div_div_eq_div_mul]
  show Jy (uk s (h+d) p) h d p=Jy (uk s (h+d) q) h d q
  have:uk s (h+d) p=uk s (h+d) q:=by unfold uk;rw[e1,e1,e]
  rw[this]
  exact ML e d _
theorem EP:∀(h:Nat) {p:Nat} (s:List Byte),p%2^h=0->kv s h p=s
 |0,_,_,_=>rfl
 |k+1,p,s,hp=>by
  have h2:p/2^k%2=0:=by
   have:=Nat.mod_pow_succ (x:=p) (b:=2) (k:=k)
   rw[hp]at this
   have c:2^k*(p/2^k%2)=0:=by omega
   rcases Nat.mul_eq_zero.1 c with c|c
   ·exact absurd c (by have:=Nat.two_pow_pos k;omega)
   ·exact c
  have d:p%2^k=0:=by
   have:=Nat.mod_pow_succ (x:=p) (b:=2) (k:=k)
   omega
  show kv (uk s k p) k p=s
  have:uk s k p=s:=by unfold uk;rw[if_neg (by omega)]
  rw[this]
  exact EP k s d
theorem Jz {h p q:Nat}(hh:h<=20)(e:p/2^h=q/2^h)(hp:p%2^h=0):kv (kv s 20 p) h q=kv s 20 q:=by
 have e1:h+(20-h)=20:=by omega
 have hs:=Bd h p (20-h) s
 have ht:=Bd h q (20-h) s
 rw[e1]at hs ht
 rw[hs,ht,EP h _ hp,ML e]
def lU (seed:List Byte)(no:Nat):List Byte:=kv seed 20 (1048575-no)
def AB (next h:Nat):Option Nat:=
 let p:=1048576-next+(2^h+2097152-(1048576-next))%2^(h+1)
 if next≠0/\h<20/\p<1048576 then some p else none
def hgt (no:Nat):Nat:=if no%2=0 then 0 else if no%4=1 then 1 else if no%8=3 then 2 else 3
theorem ZY:∀n,n<14->∀h,h<21->∀p,AB n h=some p->(p<1048576/\p%2^h=0)/\h<20:=by
 intro n hn h hh p hp
 have key:((List.range 14).all fun n=>(List.range 21).all fun h=>match AB n h with |some p=>decide (p<1048576)&&decide (p%2^h=0)&&decide (h<20)|none=>true)=true:=by decide+kernel
 rw[List.all_eq_true]at key
 have k1:=key n (List.mem_range.2 hn)
 rw[List.all_eq_true]at k1
 have k2:=k1 h (List.mem_range.2 hh)
 rw[hp]at k2
 simpa using k2
theorem QS {n:Nat}(hn:n<13):(hgt n<=3/\(1048575-n)%2^hgt n=0)/\(∀h,h<hgt n->∀x,AB n h=some x->x/2^hgt n=(1048575-n)/2^hgt n)/\∀h,h<21->AB (n+1) h=if h=hgt n then some (1048575-n)else AB n h:=by
 have key:((List.range 13).all fun n=>decide (hgt n<=3)&&decide ((1048575-n)%2^hgt n=0)&&((List.range (hgt n)).all fun h=>match AB n h with |some x=>decide (x/2^hgt n=(1048575-n)/2^hgt n)|none=>true)&&(List.range 21).all fun h=>decide (AB (n+1) h=if h=hgt n then some (1048575-n)else AB n h))=true:=by decide+kernel
 rw[List.all_eq_true]at key
 have k1:=key n (List.mem_range.2 hn)
 simp only[Bool.and_eq_true,decide_eq_true_eq,List.all_eq_true,List.mem_range]at k1
 obtain⟨⟨⟨a,b⟩,c⟩,d⟩:=k1
 exact⟨⟨a,b⟩,fun h hh x hx=>by have:=c h hh;rw[hx]at this;simpa using this,d⟩
def vH (seed:List Byte)(n h:Nat):List Byte:=match AB n h with
 |some p=>kv seed 20 p
 |none=>[]
def jZ (seed:List Byte)(n k:Nat):List Byte:=((List.range k).map (vH seed n)).flatten
theorem yO (seed:List Byte)(n k:Nat):jZ seed n (k+1)=jZ seed n k++vH seed n k:=by simp[jZ,List.range_succ]
end Go.Scp
