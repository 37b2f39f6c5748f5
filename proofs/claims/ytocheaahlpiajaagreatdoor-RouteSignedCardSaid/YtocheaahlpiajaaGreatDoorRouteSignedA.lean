/- RouteSigned: for every input the law answers true and leaves its arguments as they were. -/

set_option linter.unusedVariables false
set_option linter.unusedSimpArgs false
namespace Go.Num
def pm (m:Nat):Nat->Nat->Nat->Nat->Nat
  |0,_,_,out=>out
  |f+1,a,n,out=>pm m f (a*a%m) (n/2) (if n%2=1 then out*a%m else out)
theorem pm_eq (m:Nat):∀(f a n out:Nat),n<2^f->out<m->pm m f a n out=out*a^n%m
  |0,a,n,out,h,ho=>by
    have:n=0:=by simpa using h
    subst this
    simp[pm,Nat.mod_eq_of_lt ho]
  |f+1,a,n,out,h,ho=>by
    have hm:0<m:=by omega
    have hn:n/2<2^f:=by rw[Nat.pow_succ]at h;omega
    rw[pm]
    by_cases hp:n%2=1
    · rw[if_pos hp,pm_eq m f _ _ _ hn (Nat.mod_lt _ hm)]
      have e:a^n=a*(a*a)^(n/2):=by
        have b:n=2*(n/2)+1:=by omega
        conv=>lhs;rw[b]
        rw[Nat.pow_succ,Nat.pow_mul,Nat.pow_two,Nat.mul_comm]
      rw[e,Nat.mul_mod,Nat.mod_mod,<-Nat.pow_mod,<-Nat.mul_mod,Nat.mul_assoc]
    · rw[if_neg hp,pm_eq m f _ _ _ hn ho]
      have e:a^n=(a*a)^(n/2):=by
        have b:n=2*(n/2):=by omega
        conv=>lhs;rw[b]
        rw[Nat.pow_mul,Nat.pow_two]
      rw[e,Nat.mul_mod,<-Nat.pow_mod,<-Nat.mul_mod]
theorem least {p:Nat->Prop}[DecidablePred p](n:Nat)(h:p n):∃k,k<=n/\p k/\∀j,j<k->¬p j:=by
  induction n using Nat.strongRecOn with
  |ind n ih=>
    by_cases hs:∃j,j<n/\p j
    · obtain⟨j,hj,hp⟩:=hs
      obtain⟨k,d,b,c⟩:=ih j hj hp
      exact⟨k,by omega,b,c⟩
    · exact⟨n,Nat.le_refl _,h,fun j hj hp=>hs ⟨j,hj,hp⟩⟩
end Go.Num

namespace Go.Num
def q:Nat:=2305843009213688669
def M:Nat:=4611686018427377339
theorem q_def:q=2305843009213688669:=rfl
theorem q_pos:0<q:=by decide
theorem M_one:1<M:=by decide
def pw (a n:Nat):Nat:=pm M 64 a n 1
theorem pw_eq (a n:Nat)(h:n<18446744073709551616):pw a n=a^n%M:=by
  have b:n<2^64:=by rw[show(2:Nat)^64=18446744073709551616 by decide];exact h
  rw[pw,pm_eq M 64 a n 1 b M_one,Nat.one_mul]
theorem pw_lt (a n:Nat)(h:n<18446744073709551616):pw a n<M:=by rw[pw_eq a n h];exact Nat.mod_lt _ (by decide)
theorem step1 (a n out:Nat)(h:n%2=1):(out*a%M)*(a*a%M)^(n/2)%M=out*a^n%M:=by
  have e:a^n=a*(a*a)^(n/2):=by
    have b:n=2*(n/2)+1:=by omega
    conv=>lhs;rw[b]
    rw[Nat.pow_succ,Nat.pow_mul,Nat.pow_two,Nat.mul_comm]
  rw[e,Nat.mul_mod,Nat.mod_mod,<-Nat.pow_mod,<-Nat.mul_mod,Nat.mul_assoc]
theorem step0 (a n out:Nat)(h:¬n%2=1):out*(a*a%M)^(n/2)%M=out*a^n%M:=by
  have e:a^n=(a*a)^(n/2):=by
    have b:n=2*(n/2):=by omega
    conv=>lhs;rw[b]
    rw[Nat.pow_mul,Nat.pow_two]
  rw[e,Nat.mul_mod,<-Nat.pow_mod,<-Nat.mul_mod]
theorem pw_start (a n:Nat)(h:n<18446744073709551616):1*a^n%M=pw a n:=by rw[pw_eq a n h,Nat.one_mul]
theorem pw_end (a out:Nat)(h:out<M):out*a^0%M=out:=by rw[Nat.pow_zero,Nat.mul_one,Nat.mod_eq_of_lt h]
theorem q_lt:q<18446744073709551616:=by decide
def right (p:Nat):Bool:=decide (0<p)&&decide (p<M)&&decide (pw p q=1)
theorem right_iff (p:Nat):right p=true↔0<p/\p<M/\p^q%M=1:=by
  unfold right
  rw[pw_eq p q q_lt]
  simp[and_assoc]
def taken (p:Nat):Nat:=if right p then p else 1
def scale (p k:Nat):Nat:=pw (taken p) (k%q)
def base (k:Nat):Nat:=scale 4 k
def mulS (a b:Nat):Nat:=(a%q)*(b%q)%q
def addS (a b:Nat):Nat:=(a%q+b%q)%q
def addP (a b:Nat):Nat:=taken a*taken b%M
theorem right_one:right 1=true:=by decide+kernel
theorem right_taken (p:Nat):right (taken p)=true:=by
  unfold taken
  split
  · assumption
  · exact right_one
theorem pow_q {p:Nat}(h:right p=true):p^q%M=1:=((right_iff p).1 h).2.2
theorem pow_mod_q {p:Nat}(h:right p=true)(k:Nat):p^(k%q)%M=p^k%M:=by
  have e:k=q*(k/q)+k%q:=(Nat.div_add_mod k q).symm
  conv=>rhs;rw[e]
  rw[Nat.pow_add,Nat.pow_mul,Nat.mul_mod,Nat.pow_mod (p^q),pow_q h,Nat.one_pow,Nat.mod_eq_of_lt M_one,Nat.one_mul,Nat.mod_mod]
theorem mod_q_lt (k:Nat):k%q<18446744073709551616:=Nat.lt_trans (Nat.mod_lt _ q_pos) q_lt
theorem scale_eq (p k:Nat):scale p k=taken p^k%M:=by
  rw[scale,pw_eq _ _ (mod_q_lt k),pow_mod_q (right_taken p)]
theorem scale_lt (p k:Nat):scale p k<M:=by rw[scale_eq];exact Nat.mod_lt _ (by decide)
def fromTo (n:Nat):List (BitVec 8)->Nat
  |[]=>n
  |b::l=>fromTo ((256*n+b.toNat)%(q-1)) l
def fromB (l:List (BitVec 8)):Nat:=fromTo 0 l+1
theorem fromTo_lt:∀(l:List (BitVec 8)) (n:Nat),n<q-1->fromTo n l<q-1
  |[],_,h=>h
  |_::l,_,_=>fromTo_lt l _ (Nat.mod_lt _ (by decide))
theorem fromTo_snoc (l:List (BitVec 8))(k n:Nat)(b:BitVec 8)(h:l[k]? =some b):fromTo n (l.take (k+1))=(256*fromTo n (l.take k)+b.toNat)%(q-1):=by
  have ap:∀(l m:List (BitVec 8)) (n:Nat),fromTo n (l++m)=fromTo (fromTo n l) m:=by
    intro l
    induction l with
    |nil=>intro m n;rfl
    |cons c l ih=>intro m n;exact ih m _
  rw[List.take_add_one,h,ap]
  rfl
end Go.Num

namespace Go.Hsp
abbrev Byte:=BitVec 8
abbrev Word:=BitVec 32
def be8 (m:Nat):List Byte:=[56,48,40,32,24,16,8,0].map fun k=>BitVec.ofNat 8 (m>>>k)
def be8To (m k:Nat):List Byte:=(be8 m).take k
theorem be8_length (m:Nat):(be8 m).length=8:=rfl
theorem be8To_succ (m k:Nat)(h:k<8):be8To m (k+1)=be8To m k++[BitVec.ofNat 8 (m>>>(56-8*k))]:=by
  have:k=0\/k=1\/k=2\/k=3\/k=4\/k=5\/k=6\/k=7:=by omega
  rcases this with rfl|rfl|rfl|rfl|rfl|rfl|rfl|rfl<;>rfl
def rot (x:Word)(k:Nat):Word:=x<<<(32-k)|||x>>>k
def be32 (b:List Byte):Word:=(b.getD 0 0).setWidth 32<<<24|||(b.getD 1 0).setWidth 32<<<16|||(b.getD 2 0).setWidth 32<<<8|||(b.getD 3 0).setWidth 32
def nextWord (w:List Word)(k:Nat):Word:=
  w.getD (k-16) 0+(rot (w.getD (k-15) 0) 7^^^rot (w.getD (k-15) 0) 18^^^(w.getD (k-15) 0)>>>3)+w.getD (k-7) 0
    +(rot (w.getD (k-2) 0) 17^^^rot (w.getD (k-2) 0) 19^^^(w.getD (k-2) 0)>>>10)
def schedTo (b:List Byte):Nat->List Word
  |0=>[]
  |k+1=>schedTo b k++[if k<16 then be32 (b.drop (4*k))else nextWord (schedTo b k) k]
theorem schedTo_length (b:List Byte):∀k,(schedTo b k).length=k
  |0=>rfl
  |k+1=>by simp[schedTo,schedTo_length b k]
def sched (b:List Byte):List Word:=schedTo b 64
def table:List Word:=[
  0x428a2f98,0x71374491,0xb5c0fbcf,0xe9b5dba5,0x3956c25b,0x59f111f1,0x923f82a4,0xab1c5ed5,
  0xd807aa98,0x12835b01,0x243185be,0x550c7dc3,0x72be5d74,0x80deb1fe,0x9bdc06a7,0xc19bf174,
  0xe49b69c1,0xefbe4786,0x0fc19dc6,0x240ca1cc,0x2de92c6f,0x4a7484aa,0x5cb0a9dc,0x76f988da,
  0x983e5152,0xa831c66d,0xb00327c8,0xbf597fc7,0xc6e00bf3,0xd5a79147,0x06ca6351,0x14292967,
  0x27b70a85,0x2e1b2138,0x4d2c6dfc,0x53380d13,0x650a7354,0x766a0abb,0x81c2c92e,0x92722c85,
  0xa2bfe8a1,0xa81a664b,0xc24b8b70,0xc76c51a3,0xd192e819,0xd6990624,0xf40e3585,0x106aa070,
  0x19a4c116,0x1e376c08,0x2748774c,0x34b0bcb5,0x391c0cb3,0x4ed8aa4a,0x5b9cca4f,0x682e6ff3,
  0x748f82ee,0x78a5636f,0x84c87814,0x8cc70208,0x90befffa,0xa4506ceb,0xbef9a3f7,0xc67178f2]
def first:List Word:=[0x6a09e667,0xbb67ae85,0x3c6ef372,0xa54ff53a,0x510e527f,0x9b05688c,0x1f83d9ab,0x5be0cd19]
def stepW (v:List Word)(k w:Word):List Word:=
  let s:=rot (v.getD 4 0) 6^^^rot (v.getD 4 0) 11^^^rot (v.getD 4 0) 25
  let t:=v.getD 7 0+s+(v.getD 6 0^^^v.getD 4 0&&&(v.getD 5 0^^^v.getD 6 0))+k+w
  let r:=rot (v.getD 0 0) 2^^^rot (v.getD 0 0) 13^^^rot (v.getD 0 0) 22
  let most:=v.getD 0 0&&&v.getD 1 0|||v.getD 2 0&&&(v.getD 0 0|||v.getD 1 0)
  [t+r+most,v.getD 0 0,v.getD 1 0,v.getD 2 0,v.getD 3 0+t,v.getD 4 0,v.getD 5 0,v.getD 6 0]
def roundsTo (h:List Word)(ws:List Word):Nat->List Word
  |0=>h
  |i+1=>stepW (roundsTo h ws i) (table.getD i 0) (ws.getD i 0)
theorem roundsTo_length (h ws:List Word)(hh:h.length=8):∀i,(roundsTo h ws i).length=8
  |0=>hh
  |i+1=>by simp[roundsTo,stepW]
def addTo (v h:List Word)(i:Nat):List Word:=(List.range 8).map fun j=>if j<i then v.getD j 0+h.getD j 0 else v.getD j 0
theorem addTo_length (v h:List Word)(i:Nat):(addTo v h i).length=8:=by simp[addTo]
theorem addTo_zero (v h:List Word)(hv:v.length=8):addTo v h 0=v:=by
  apply List.ext_getElem (by simp[addTo,hv])
  intro j c b
  simp[addTo,List.getD,b]
theorem addTo_getElem (v h:List Word)(i j:Nat)(hj:j<8):(addTo v h i)[j]? =some (if j<i then v.getD j 0+h.getD j 0 else v.getD j 0):=by simp[addTo,hj]
theorem addTo_at (v h:List Word)(i j:Nat)(hj:j<8):(addTo v h i).getD j 0=if j<i then v.getD j 0+h.getD j 0 else v.getD j 0:=by
  rw[List.getD_eq_getElem?_getD,addTo_getElem v h i j hj];rfl
theorem addTo_succ (v h:List Word)(i:Nat)(hi:i<8):(addTo v h i).set i (v.getD i 0+h.getD i 0)=addTo v h (i+1):=by
  apply List.ext_getElem?
  intro j
  by_cases hj:j<8
  · rw[addTo_getElem v h (i+1) j hj,List.getElem?_set]
    split
    · subst_vars;simp[addTo_length,hi]
    · rename_i hne
      rw[addTo_getElem v h i j hj]
      by_cases b:j<i
      · rw[if_pos b,if_pos (by omega)]
      · rw[if_neg b,if_neg (by omega)]
  · rw[List.getElem?_eq_none (by simp[addTo_length];omega),List.getElem?_eq_none (by simp[addTo_length];omega)]
def mix (h:List Word)(b:List Byte):List Word:=addTo (roundsTo h (sched b) 64) h 8
theorem mix_length (h:List Word)(b:List Byte):(mix h b).length=8:=addTo_length _ _ _
def mixN (h:List Word)(b:List Byte):Nat->List Word
  |0=>h
  |n+1=>mixN (mix h (b.take 64)) (b.drop 64) n
def mixAll (h:List Word)(b:List Byte):List Word:=mixN h b (b.length/64)
theorem mixAll_step (h:List Word)(b:List Byte)(hb:64<=b.length):mixAll h b=mixAll (mix h (b.take 64)) (b.drop 64):=by
  unfold mixAll
  rw[List.length_drop,show b.length/64=(b.length-64)/64+1 by omega]
  rfl
theorem mixAll_end (h:List Word)(b:List Byte)(hb:b.length<64):mixAll h b=h:=by
  unfold mixAll
  rw[Nat.div_eq_of_lt hb]
  rfl
def noughts (n:Nat):Nat:=(64+55-n%64)%64
def tail (b:List Byte):List Byte:=b.drop (b.length-b.length%64)++[128]++List.replicate (noughts b.length) 0++be8 (8*b.length)
def digest (h:List Word):List Byte:=(List.range 32).map fun k=>((h.getD (k/4) 0)>>>(24-8*(k%4))).setWidth 8
def digestTo (h:List Word)(k:Nat):List Byte:=(digest h).take k++List.replicate (32-k) 0
theorem digest_length (h:List Word):(digest h).length=32:=by simp[digest]
theorem digestTo_length (h:List Word)(k:Nat)(hk:k<=32):(digestTo h k).length=32:=by simp[digestTo,digest_length];omega
theorem digestTo_succ (h:List Word)(k:Nat)(hk:k<32):(digestTo h k).set k (((h.getD (k/4) 0)>>>(24-8*(k%4))).setWidth 8)=digestTo h (k+1):=by
  have e:(digest h)[k]? =some (((h.getD (k/4) 0)>>>(24-8*(k%4))).setWidth 8):=by simp[digest,hk]
  unfold digestTo
  have hl:((digest h).take k).length=k:=by simp[digest_length];omega
  rw[List.set_append,if_neg (by rw[hl];omega),hl,Nat.sub_self,show(32-k)=(32-(k+1))+1 by omega,List.replicate_succ,List.set_cons_zero,List.take_add_one,e]
  simp
def sum (b:List Byte):List Byte:=digest (mixAll (mixAll first b) (tail b))
theorem sum_length (b:List Byte):(sum b).length=32:=digest_length _
theorem tail_length (b:List Byte):(tail b).length%64=0:=by
  simp only[tail,List.length_append,List.length_drop,List.length_replicate,be8_length,List.length_singleton,noughts]
  omega
def tagBytes (name:List Byte):List (List Byte)->List Byte
  |parts=>be8 name.length++name++(parts.map fun p=>be8 p.length++p).flatten
def tagTo (name:List Byte)(parts:List (List Byte))(k:Nat):List Byte:=be8 name.length++name++((parts.take k).map fun p=>be8 p.length++p).flatten
theorem tagTo_zero (name:List Byte)(parts:List (List Byte)):tagTo name parts 0=be8 name.length++name:=by simp[tagTo]
theorem tagTo_succ (name:List Byte)(parts:List (List Byte))(k:Nat)(q:List Byte)(h:parts[k]? =some q):tagTo name parts (k+1)=tagTo name parts k++be8 q.length++q:=by
  simp[tagTo,List.take_add_one,h]
theorem tagTo_all (name:List Byte)(parts:List (List Byte))(k:Nat)(h:parts.length<=k):tagTo name parts k=tagBytes name parts:=by
  simp[tagTo,tagBytes,List.take_of_length_le h]
theorem tagTo_le (name:List Byte)(parts:List (List Byte))(k:Nat):(tagTo name parts k).length<=(tagBytes name parts).length:=by
  have e:tagBytes name parts=tagTo name parts k++((parts.drop k).map fun p=>be8 p.length++p).flatten:=by
    unfold tagTo tagBytes
    rw[List.append_assoc (be8 name.length++name),<-List.flatten_append,<-List.map_append,List.take_append_drop]
  rw[e,List.length_append]
  exact Nat.le_add_right _ _
theorem flat_parts:∀(parts:List (List Byte)),8*parts.length<=((parts.map fun p=>be8 p.length++p).flatten).length
  |[]=>by simp
  |p::ps=>by
    have:=flat_parts ps
    simp only[List.map_cons,List.flatten_cons,List.length_append,be8_length,List.length_cons]
    omega
theorem tagBytes_parts (name:List Byte)(parts:List (List Byte)):8*parts.length<=(tagBytes name parts).length:=by
  have:=flat_parts parts
  unfold tagBytes
  rw[List.length_append]
  omega
def tag (name:List Byte)(parts:List (List Byte)):List Byte:=sum (tagBytes name parts)
theorem tag_length (name:List Byte)(parts:List (List Byte)):(tag name parts).length=32:=sum_length _
end Go.Hsp

namespace Go.Hsp
def nStream:List Byte:=[115,116,114,101,97,109]
def streamTo (key:List Byte)(j:Nat):List Byte:=((List.range j).map fun i=>tag nStream [key,be8 i]).flatten
def stream (key:List Byte)(n:Nat):List Byte:=(streamTo key ((n+31)/32)).take n
def xorB (a b:List Byte):List Byte:=List.zipWith (· ^^^ ·) a b
def overB (key b:List Byte):List Byte:=xorB (stream key b.length) b
def inner (key s:List Byte):List Byte:=overB key (s.take (s.length-8))
end Go.Hsp

namespace Go.Osp
open Go.Hsp Go.Num
abbrev Hop:=Int×Int×Int×Int×Nat×Nat
abbrev Stop:=Nat×List Byte
def nRho:List Byte:=[114,104,111]
def nMac:List Byte:=[109,97,99]
def usg (i:Int):Nat:=(i%18446744073709551616).toNat
def layB (h:Hop):List Byte:=be8 (usg h.1)++be8 (usg h.2.1)++be8 (usg h.2.2.1)++be8 (usg h.2.2.2.1)++be8 h.2.2.2.2.1++be8 h.2.2.2.2.2
def rho (s:Stop)(n:Nat):List Byte:=stream (tag nRho [s.2]) n
def macB (s:Stop)(b:List Byte):List Byte:=tag nMac [s.2,b]
def zeros (n:Nat):List Byte:=List.replicate n 0
def fillS (f:List Byte)(s:Stop):List Byte:=xorB (f++zeros 80) ((rho s 720).drop (720-(f.length+80)))
def fillTo:List Byte->List Stop->List Byte
  |f,[]=>f
  |f,s::l=>fillTo (fillS f s) l
def filler (l:List Stop):List Byte:=fillTo [] (l.take (l.length-1))
def put (r f:List Byte):List Byte:=r.take (r.length-f.length)++f
def layer (s:Stop)(h:Hop)(m r:List Byte):List Byte:=xorB (layB h++m++r.take 560) (rho s 640)
def opened (s:Stop)(r:List Byte):List Byte:=xorB (r++zeros 80) (rho s 720)
def noHop:Hop:=(0,0,0,0,0,0)
end Go.Osp

namespace Go.Osp
open Go.Hsp Go.Num
def stepR (l:List Stop)(hs:List Hop)(st:List Byte×List Byte)(k:Nat):List Byte×List Byte:=
  ((if k+1=l.length then put (layer (l.getD k (0,[])) (hs.getD k noHop) st.2 st.1) (filler l)else layer (l.getD k (0,[])) (hs.getD k noHop) st.2 st.1),
   macB (l.getD k (0,[])) (if k+1=l.length then put (layer (l.getD k (0,[])) (hs.getD k noHop) st.2 st.1) (filler l)else layer (l.getD k (0,[])) (hs.getD k noHop) st.2 st.1))
end Go.Osp

namespace Go.Osp
open Go.Hsp Go.Num
theorem getD_lt {l:List Nat}{b:Nat}(h:∀x∈l,x<b)(hb:0<b)(i:Nat):l.getD i 0<b:=by
  rw[List.getD_eq_getElem?_getD]
  cases e:l[i]? with
  |none=>exact hb
  |some x=>exact h x (List.mem_of_getElem? e)
end Go.Osp

namespace Go.Gsp
open Go.Osp
structure Pol where
  b:Int
  p:Int
  d:Int
  l:Int
  m:Int
deriving DecidableEq
structure Edge where
  f:Int
  t:Int
  c:Int
  r:Int
  pol:Pol
deriving DecidableEq
def noPol:Pol:=⟨0,0,0,0,0⟩
def noEdge:Edge:=⟨0,0,0,0,noPol⟩
def inB (n lo hi:Int):Bool:=decide (lo<=n/\n<=hi)
def polOk (p:Pol):Bool:=inB p.b 0 1125899906842624&&inB p.l 0 p.m&&inB p.m 0 1125899906842624&&inB p.p 0 1000000&&inB p.d 0 1048576
def edgeOk (e:Edge):Bool:=inB e.f 0 11&&inB e.t 0 11&&decide (e.f≠e.t)&&inB e.c 0 39&&inB e.r 1 1125899906842624&&polOk e.pol
def coinB (a:Int):Bool:=inB a 0 1125899906842624
def addC (a b:Int):Int×Bool:=if coinB a&&coinB b&&decide (a<=1125899906842624-b)then(a+b,true)else(0,false)
def partC (a num:Int):Int×Bool:=if coinB a&&decide (0<=num)&&decide (a*num/1000000<=1125899906842624)then(a*num/1000000,true)else(0,false)
def feeG (p:Pol)(a:Int):Int×Bool:=if(partC a p.p).2&&polOk p then addC p.b (partC a p.p).1 else(0,false)
def cmpI (a b:Int):Int:=if a<b then-1 else if b<a then 1 else 0
def ordE (a b:Edge):Int:=if cmpI a.c b.c≠0 then cmpI a.c b.c else cmpI a.f b.f
def RightAt (l:List Edge)(i:Nat):Prop:=
  edgeOk (l.getD i noEdge)=true/\(0<i->ordE (l.getD (i-1) noEdge) (l.getD i noEdge)<0)/\
    ((0<i/\(l.getD (i-1) noEdge).c=(l.getD i noEdge).c)->¬(1<i/\(l.getD (i-2) noEdge).c=(l.getD i noEdge).c)/\(l.getD (i-1) noEdge).f=(l.getD i noEdge).t/\(l.getD (i-1) noEdge).t=(l.getD i noEdge).f/\(l.getD (i-1) noEdge).r=(l.getD i noEdge).r)
instance (l : List Edge) (i : Nat) : Decidable (RightAt l i) := by unfold RightAt; infer_instance
def RightP (l:List Edge):Prop:=∀i,i<l.length->RightAt l i
instance (l : List Edge) : Decidable (RightP l) := by unfold RightP; infer_instance
def rightG (l:List Edge):Bool:=decide (RightP l)
def WayAt (l:List Edge)(i:Nat):Prop:=edgeOk (l.getD i noEdge)=true/\(0<i->(l.getD (i-1) noEdge).t=(l.getD i noEdge).f)/\∀k,k<=i->(l.getD k noEdge).f≠(l.getD i noEdge).t
instance (l : List Edge) (i : Nat) : Decidable (WayAt l i) := by unfold WayAt; infer_instance
def WayP (l:List Edge):Prop:=(1<=l.length/\l.length<=8)/\∀i,i<l.length->WayAt l i
instance (l : List Edge) : Decidable (WayP l) := by unfold WayP; infer_instance
def wayG (l:List Edge):Bool:=decide (WayP l)
def nextC (e:Edge)(a x:Int):Option (Int×Int):=if(feeG e.pol a).2&&(addC a (feeG e.pol a).1).2 then some (a+(feeG e.pol a).1,x+e.pol.d)else none
def costF (a x:Int):List Edge->Except Int (Option (Int×Int)×List (Int×Int))
  |[]=> .ok (some (a,x),[])
  |e::t=>match costF a x t with
    | .error er=> .error er
    | .ok (none,_)=> .error 6
    | .ok (some (a1,x1),l)=>if inB a1 e.pol.l (min e.pol.m e.r)=false then .error 6 else if 1048576<x1 then .error 16 else .ok (nextC e a1 x1,(a1,x1)::l)
def costG (w:List Edge)(a x:Int):List Int×List Int×Int:=
  if wayG w=false then([],[],19)else if inB a 1 1125899906842624=false\/inB x 1 1048576=false then([],[],1)
  else match costF a x w with
    | .error er=>([],[],er)
    | .ok (_,l)=>(l.map Prod.fst,l.map Prod.snd,0)
theorem inB_T {n lo hi:Int}(h:inB n lo hi=true):lo<=n/\n<=hi:=of_decide_eq_true h
theorem inB_F {n lo hi:Int}(h:inB n lo hi=false):¬(lo<=n/\n<=hi):=of_decide_eq_false h
theorem polOk_T {p:Pol}(h:polOk p=true):(0<=p.b/\p.b<=1125899906842624)/\(0<=p.l/\p.l<=p.m)/\(0<=p.m/\p.m<=1125899906842624)/\(0<=p.p/\p.p<=1000000)/\0<=p.d/\p.d<=1048576:=by
  simp only[polOk,Bool.and_eq_true]at h
  exact⟨inB_T h.1.1.1.1,inB_T h.1.1.1.2,inB_T h.1.1.2,inB_T h.1.2,inB_T h.2⟩
theorem edgeOk_T {e:Edge}(h:edgeOk e=true):(0<=e.f/\e.f<=11)/\(0<=e.t/\e.t<=11)/\e.f≠e.t/\(0<=e.c/\e.c<=39)/\(1<=e.r/\e.r<=1125899906842624)/\polOk e.pol=true:=by
  simp only[edgeOk,Bool.and_eq_true,decide_eq_true_eq]at h
  exact⟨inB_T h.1.1.1.1.1,inB_T h.1.1.1.1.2,h.1.1.1.2,inB_T h.1.1.2,inB_T h.1.2,h.2⟩
def PolI (p:Pol):Prop:=(-9223372036854775808<=p.b/\p.b<=9223372036854775807)/\(-9223372036854775808<=p.p/\p.p<=9223372036854775807)/\(-9223372036854775808<=p.d/\p.d<=9223372036854775807)/\(-9223372036854775808<=p.l/\p.l<=9223372036854775807)/\(-9223372036854775808<=p.m/\p.m<=9223372036854775807)
end Go.Gsp

namespace Go.Gsp
open Go.Osp
variable {a x am ex er:Int}{l:List (Int×Int)}{xs:List Edge}{j:Nat}
theorem drop_pred (xs:List Edge)(j:Nat)(h0:0<j)(hj:j<=xs.length):xs.drop (j-1)=xs.getD (j-1) noEdge::xs.drop j:=by
  rw[List.drop_eq_getElem_cons (by omega),show j-1+1=j by omega]
  simp[List.getD,show j-1<xs.length by omega]
theorem costF_err:∀(xs:List Edge) (j:Nat),costF a x (xs.drop j)= .error er->costF a x xs= .error er
  |_,0,h=>h
  |[],j+1,h=>by simpa using h
  |e::xs,j+1,h=>by
    have:=costF_err xs j (by simpa using h)
    simp[costF,this]
theorem costF_six (h0:0<j)(hj:j<=xs.length)(h:costF a x (xs.drop j)= .ok (some (am,ex),l))(h1:¬inB am (xs.getD (j-1) noEdge).pol.l (min (xs.getD (j-1) noEdge).pol.m (xs.getD (j-1) noEdge).r)=true):costF a x xs= .error 6:=by
  refine costF_err xs (j-1) ?_
  rw[drop_pred xs j h0 hj,costF,h]
  simp only[Bool.eq_false_iff.2 h1,if_true]
theorem costF_late (h0:0<j)(hj:j<=xs.length)(h:costF a x (xs.drop j)= .ok (some (am,ex),l))(h1:inB am (xs.getD (j-1) noEdge).pol.l (min (xs.getD (j-1) noEdge).pol.m (xs.getD (j-1) noEdge).r)=true)(h2:1048576<ex):costF a x xs= .error 16:=by
  refine costF_err xs (j-1) ?_
  rw[drop_pred xs j h0 hj,costF,h]
  simp[-List.getD_eq_getElem?_getD,h1,h2]
theorem costF_step (h0:0<j)(hj:j<=xs.length)(h:costF a x (xs.drop j)= .ok (some (am,ex),l))(h1:inB am (xs.getD (j-1) noEdge).pol.l (min (xs.getD (j-1) noEdge).pol.m (xs.getD (j-1) noEdge).r)=true)(h2:¬1048576<ex):
    costF a x (xs.drop (j-1))= .ok (nextC (xs.getD (j-1) noEdge) am ex,(am,ex)::l):=by
  rw[drop_pred xs j h0 hj,costF,h]
  simp[-List.getD_eq_getElem?_getD,h1,h2]
theorem costF_none (h0:0<j)(hj:j<=xs.length)(h:costF a x (xs.drop j)= .ok (none,l)):costF a x xs= .error 6:=by
  refine costF_err xs (j-1) ?_
  rw[drop_pred xs j h0 hj,costF,h]
theorem nextC_none {e:Edge}(h:¬(feeG e.pol am).2=true\/¬(addC am (feeG e.pol am).1).2=true):nextC e am ex=none:=by
  unfold nextC
  rw[if_neg]
  rw[Bool.and_eq_true]
  rintro⟨b,c⟩
  rcases h with h|h<;>contradiction
theorem addC_val {a b:Int}(h:(addC a b).2=true):(addC a b).1=a+b/\0<=a+b/\a+b<=1125899906842624:=by
  unfold addC at*
  split at h
  · rename_i hc
    simp only[coinB,Bool.and_eq_true,decide_eq_true_eq]at hc
    have c:=inB_T hc.1.1
    have d:=inB_T hc.1.2
    exact⟨by rw[if_pos (by simp[coinB,hc])],by omega,by omega⟩
  · cases h
theorem nextC_some {e:Edge}(h1:(feeG e.pol am).2=true)(h2:(addC am (feeG e.pol am).1).2=true):nextC e am ex=some ((addC am (feeG e.pol am).1).1,ex+e.pol.d):=by
  unfold nextC
  rw[if_pos (by simp[h1,h2]),(addC_val h2).1]
theorem costG_way {xs:List Edge}{a x:Int}(h:¬wayG xs=true):costG xs a x=([],[],19):=by unfold costG;rw[if_pos (by simpa using h)]
theorem costG_arg {xs:List Edge}{a x:Int}(h:wayG xs=true)(h1:¬inB a 1 1125899906842624=true\/¬inB x 1 1048576=true):costG xs a x=([],[],1):=by
  unfold costG
  rw[if_neg (by simp[h]),if_pos (by simpa using h1)]
theorem costG_er {xs:List Edge}{a x er:Int}(h:wayG xs=true)(h1:inB a 1 1125899906842624=true)(h2:inB x 1 1048576=true)(h3:costF a x xs= .error er):costG xs a x=([],[],er):=by
  unfold costG
  rw[if_neg (by simp[h]),if_neg (by simp[h1,h2]),h3]
theorem costG_ok {xs:List Edge}{a x:Int}{nx:Option (Int×Int)}{l:List (Int×Int)}(h:wayG xs=true)(h1:inB a 1 1125899906842624=true)(h2:inB x 1 1048576=true)(h3:costF a x xs= .ok (nx,l)):costG xs a x=(l.map Prod.fst,l.map Prod.snd,0):=by
  unfold costG
  rw[if_neg (by simp[h]),if_neg (by simp[h1,h2]),h3]
theorem rep_set (l:List Int)(v:Int)(j:Nat)(h:0<j):(List.replicate j 0++l).set (j-1) v=List.replicate (j-1) 0++v::l:=by
  rw[List.set_append_left _ _ (by simp;omega)]
  obtain⟨k,rfl⟩:∃k,j=k+1:=⟨j-1,by omega⟩
  rw[Nat.add_sub_cancel,List.replicate_succ',List.set_append_right _ _ (by simp)]
  simp
theorem polI_ok {p:Pol}(h:polOk p=true):PolI p:=by
  have:=polOk_T h
  refine⟨⟨?_,?_⟩,⟨?_,?_⟩,⟨?_,?_⟩,⟨?_,?_⟩,⟨?_,?_⟩⟩<;>omega
theorem costF_len:∀(w:List Edge) (n:Option (Int×Int)) (l:List (Int×Int)),costF a x w= .ok (n,l)->l.length=w.length
  |[],n,l,h=>by simp[costF]at h;rw[h.2];rfl
  |e::t,n,l,h=>by
    rw[costF]at h
    split at h
    · cases h
    · cases h
    · rename_i a1 x1 l1 heq
      have ih:=costF_len t _ _ heq
      split at h
      · cases h
      · split at h
        · cases h
        · injection h with h
          injection h with _ h
          rw[<-h,List.length_cons,List.length_cons,ih]
theorem costG_inv {w:List Edge}{a x:Int}(h:(costG w a x).2.2=0):wayG w=true/\inB a 1 1125899906842624=true/\inB x 1 1048576=true/\∃nx l,costF a x w= .ok (nx,l)/\costG w a x=(l.map Prod.fst,l.map Prod.snd,0)/\l.length=w.length:=by
  by_cases b:wayG w=true
  · by_cases c:inB a 1 1125899906842624=true
    · by_cases d:inB x 1 1048576=true
      · refine⟨b,c,d,?_⟩
        cases hf:costF a x w with
        |error er=>
          have he:=costG_er b c d hf
          rw[he]at h
          have hne:∀(w:List Edge) (er:Int),costF a x w= .error er->er=6\/er=16:=by
            intro w
            induction w with
            |nil=>intro er h;simp[costF]at h
            |cons e t ih=>
              intro er h
              rw[costF]at h
              split at h
              · rename_i heq;injection h with h;exact ih er (by rw[heq,h])
              · injection h with h;exact .inl h.symm
              · split at h
                · injection h with h;exact .inl h.symm
                · split at h
                  · injection h with h;exact .inr h.symm
                  · cases h
          have:=hne w er hf
          simp at h
          omega
        |ok p=>obtain⟨nx,l⟩:=p;exact⟨nx,l,rfl,costG_ok b c d hf,costF_len w nx l hf⟩
      · rw[costG_arg b (.inr d)]at h;simp at h
    · rw[costG_arg b (.inl c)]at h;simp at h
  · rw[costG_way b]at h;simp at h
theorem costG_lens {w:List Edge}{a x:Int}(h:(costG w a x).2.2=0):(costG w a x).1.length=w.length/\(costG w a x).2.1.length=w.length:=by
  obtain⟨_,_,_,nx,l,_,b,c⟩:=costG_inv h
  rw[b];simp[c]
theorem wayG_at {xs:List Edge}(h:wayG xs=true){i:Nat}(hi:i<xs.length):WayAt xs i:=(of_decide_eq_true h:WayP xs).2 i hi
theorem wayG_len {xs:List Edge}(h:wayG xs=true):1<=xs.length/\xs.length<=8:=(of_decide_eq_true h:WayP xs).1
end Go.Gsp
namespace Go.Gsp
def bub (a:Nat):Nat->List Edge->List Edge
  |0,xs=>xs
  |j+1,xs=>if a<j+1/\ordE (xs.getD (j+1) noEdge) (xs.getD j noEdge)<0 then bub a j ((xs.set (j+1) (xs.getD j noEdge)).set j (xs.getD (j+1) noEdge))else xs
def isoC (a b i:Nat)(xs:List Edge):List Edge:=(List.range' i (b-i)).foldl (fun l i=>bub a i l) xs
def isort (a b:Nat)(xs:List Edge):List Edge:=isoC a b (a+1) xs
theorem isoC_end {a b i:Nat}{xs:List Edge}(h:b<=i):isoC a b i xs=xs:=by unfold isoC;rw[show b-i=0 by omega];rfl
theorem isoC_step {a b i:Nat}{xs:List Edge}(h:i<b):isoC a b i xs=isoC a b (i+1) (bub a i xs):=by
  unfold isoC
  rw[show b-i=(b-(i+1))+1 by omega,List.range'_succ]
  rfl
theorem bub_stop {a j:Nat}{xs:List Edge}(h:¬(a<j/\ordE (xs.getD j noEdge) (xs.getD (j-1) noEdge)<0)):bub a j xs=xs:=by
  cases j with
  |zero=>rfl
  |succ j=>rw[bub,if_neg (by simpa using h)]
theorem bub_down {a j:Nat}{xs:List Edge}(h:a<j)(h2:ordE (xs.getD j noEdge) (xs.getD (j-1) noEdge)<0):bub a j xs=bub a (j-1) ((xs.set j (xs.getD (j-1) noEdge)).set (j-1) (xs.getD j noEdge)):=by
  cases j with
  |zero=>omega
  |succ j=>rw[bub,if_pos ⟨h,by simpa using h2⟩];simp
theorem bub_length (a:Nat):∀(j:Nat) (xs:List Edge),(bub a j xs).length=xs.length
  |0,_=>rfl
  |j+1,xs=>by
    rw[bub]
    split
    · rw[bub_length a j];simp
    · rfl
theorem isoC_length (a b:Nat)(k:Nat):∀(i:Nat) (xs:List Edge),b-i=k->(isoC a b i xs).length=xs.length:=by
  induction k with
  |zero=>intro i xs h;rw[isoC_end (by omega)]
  |succ k ih=>intro i xs h;rw[isoC_step (by omega),ih _ _ (by omega),bub_length]
theorem isort_length (a b:Nat)(xs:List Edge):(isort a b xs).length=xs.length:=isoC_length a b _ _ _ rfl
end Go.Gsp
namespace Go.Gsp
variable {a x:Int}
theorem costF_at:∀(xs:List Edge) (nx:Option (Int×Int)) (l:List (Int×Int)),costF a x xs= .ok (nx,l)->
    (∀i,i<xs.length->inB (l.getD i (0,0)).1 (xs.getD i noEdge).pol.l (min (xs.getD i noEdge).pol.m (xs.getD i noEdge).r)=true/\¬1048576<(l.getD i (0,0)).2)/\
    (∀i,i+1<xs.length->nextC (xs.getD (i+1) noEdge) (l.getD (i+1) (0,0)).1 (l.getD (i+1) (0,0)).2=some (l.getD i (0,0)))/\
    (0<xs.length->l.getD (xs.length-1) (0,0)=(a,x))/\nx=(if xs.length=0 then some (a,x)else nextC (xs.getD 0 noEdge) (l.getD 0 (0,0)).1 (l.getD 0 (0,0)).2)
  |[],nx,l,h=>by
    simp[costF]at h
    obtain⟨rfl,rfl⟩:=h
    exact⟨fun i hi=>absurd hi (Nat.not_lt_zero _),fun i hi=>absurd hi (Nat.not_lt_zero _),fun h=>absurd h (Nat.lt_irrefl _),rfl⟩
  |e::t,nx,l,h=>by
    rw[costF]at h
    split at h
    · cases h
    · cases h
    · rename_i a1 x1 l1 heq
      obtain⟨c,d,f,b⟩:=costF_at t _ _ heq
      split at h
      · cases h
      · rename_i hin
        split at h
        · cases h
        · rename_i hx
          injection h with h
          injection h with hn hl
          subst hl
          refine⟨?_,?_,?_,?_⟩
          · intro i hi
            cases i with
            |zero=>exact⟨by simpa using hin,hx⟩
            |succ i=>have:=c i (by simpa using hi);simpa using this
          · intro i hi
            cases i with
            |zero=>
              have ht:0<t.length:=by simpa using hi
              rw[if_neg (by omega)]at b
              simp only[List.getD_cons_succ,List.getD_cons_zero]at*
              rw[<-b]
            |succ i=>have:=d i (by simpa using hi);simpa using this
          · intro _
            cases t with
            |nil=>simp at b;obtain⟨rfl,rfl⟩:=b;rfl
            |cons e2 t2=>have:=f (by simp);simpa using this
          · rw[if_neg (by simp)];exact hn.symm
theorem nextC_inv {e:Edge}{am ex:Int}{p:Int×Int}(h:nextC e am ex=some p):(feeG e.pol am).2=true/\(addC am (feeG e.pol am).1).2=true/\p=(am+(feeG e.pol am).1,ex+e.pol.d):=by
  unfold nextC at h
  split at h
  · rename_i hc
    rw[Bool.and_eq_true]at hc
    injection h with h
    exact⟨hc.1,hc.2,h.symm⟩
  · cases h
structure Costs (w:List Edge)(a x:Int)(S T:List Int):Prop where
  way:wayG w=true
  amt:1<=a/\a<=1125899906842624
  exp:1<=x/\x<=1048576
  lenS:S.length=w.length
  lenT:T.length=w.length
  len:1<=w.length/\w.length<=8
  room:∀i,i<w.length->((w.getD i noEdge).pol.l<=S.getD i 0/\S.getD i 0<=(w.getD i noEdge).pol.m/\S.getD i 0<=(w.getD i noEdge).r)/\T.getD i 0<=1048576
  endS:S.getD (w.length-1) 0=a
  endT:T.getD (w.length-1) 0=x
  step:∀i,i+1<w.length->(feeG (w.getD (i+1) noEdge).pol (S.getD (i+1) 0)).2=true/\(addC (S.getD (i+1) 0) (feeG (w.getD (i+1) noEdge).pol (S.getD (i+1) 0)).1).2=true/\S.getD i 0=S.getD (i+1) 0+(feeG (w.getD (i+1) noEdge).pol (S.getD (i+1) 0)).1/\T.getD i 0=T.getD (i+1) 0+(w.getD (i+1) noEdge).pol.d
theorem map_getD {α β:Type}(f:α->β)(l:List α)(i:Nat)(z:α):(l.map f).getD i (f z)=f (l.getD i z):=by
  simp only[List.getD,List.getElem?_map]
  cases l[i]? <;>rfl
theorem costs_of {w:List Edge}(h:(costG w a x).2.2=0):Costs w a x (costG w a x).1 (costG w a x).2.1:=by
  obtain⟨hw,ha,hx,nx,l,hF,hC,hl⟩:=costG_inv h
  obtain⟨k,m,e,n⟩:=costF_at w nx l hF
  have hwl:=wayG_len hw
  rw[hC]
  have b:∀i,(l.map Prod.fst).getD i 0=(l.getD i (0,0)).1:=fun i=>map_getD Prod.fst l i (0,0)
  have c:∀i,(l.map Prod.snd).getD i 0=(l.getD i (0,0)).2:=fun i=>map_getD Prod.snd l i (0,0)
  refine⟨hw,inB_T ha,inB_T hx,by simp[hl],by simp[hl],hwl,?_,?_,?_,?_⟩
  · intro i hi
    obtain⟨d,f⟩:=k i hi
    have:=inB_T d
    show(_<=(l.map Prod.fst).getD i 0/\(l.map Prod.fst).getD i 0<=_/\(l.map Prod.fst).getD i 0<=_)/\(l.map Prod.snd).getD i 0<=_
    rw[b,c]
    omega
  · show(l.map Prod.fst).getD _ 0=a
    rw[b,e (by omega)]
  · show(l.map Prod.snd).getD _ 0=x
    rw[c,e (by omega)]
  · intro i hi
    obtain⟨d,f,j⟩:=nextC_inv (m i hi)
    show(feeG _ ((l.map Prod.fst).getD _ 0)).2=true/\(addC ((l.map Prod.fst).getD _ 0) (feeG _ ((l.map Prod.fst).getD _ 0)).1).2=true/\(l.map Prod.fst).getD _ 0=(l.map Prod.fst).getD _ 0+(feeG _ ((l.map Prod.fst).getD _ 0)).1/\(l.map Prod.snd).getD _ 0=(l.map Prod.snd).getD _ 0+_
    rw[b,c,b,c]
    exact⟨d,f,by rw[j],by rw[j]⟩
theorem feeG_bound (p:Pol)(am:Int):0<=(feeG p am).1/\(feeG p am).1<=1125899906842624:=by
  unfold feeG
  split
  · unfold addC
    split
    · rename_i hc
      simp only[coinB,Bool.and_eq_true,decide_eq_true_eq]at hc
      have b:=inB_T hc.1.1
      have c:=inB_T hc.1.2
      show 0<=_+_/\_+_<=_
      omega
    · show(0:Int)<=0/\(0:Int)<=_
      omega
  · show(0:Int)<=0/\(0:Int)<=_
    omega
end Go.Gsp
namespace Go.Gsp
theorem getD_drop' (xs:List Edge)(k i:Nat):(xs.drop k).getD i noEdge=xs.getD (k+i) noEdge:=by simp[List.getD,List.getElem?_drop]
theorem way_drop {xs:List Edge}{k:Nat}(h:wayG xs=true)(hk:k<xs.length):wayG (xs.drop k)=true:=by
  have hl:=wayG_len h
  refine decide_eq_true ⟨by rw[List.length_drop];omega,fun i hi=>?_⟩
  rw[List.length_drop]at hi
  obtain⟨b,c,d⟩:=wayG_at h (i:=k+i) (by omega)
  refine⟨by rw[getD_drop'];exact b,fun e=>?_,fun q hq=>?_⟩
  · rw[getD_drop',getD_drop',show k+(i-1)=k+i-1 by omega];exact c (by omega)
  · rw[getD_drop',getD_drop'];exact d (k+q) (by omega)
theorem way_once {xs:List Edge}(h:wayG xs=true){i j:Nat}(hji:j<i)(hi:i<xs.length):(xs.getD j noEdge).f≠(xs.getD i noEdge).f/\(xs.getD j noEdge).t≠(xs.getD i noEdge).t/\(xs.getD j noEdge).f≠(xs.getD i noEdge).t:=by
  have hf:∀i,0<i->i<xs.length->(xs.getD (i-1) noEdge).t=(xs.getD i noEdge).f:=fun i c hi=>(wayG_at h hi).2.1 c
  have hn:∀i k,i<xs.length->k<=i->(xs.getD k noEdge).f≠(xs.getD i noEdge).t:=fun i k hi hk=>(wayG_at h hi).2.2 k hk
  refine⟨fun he=>?_,fun he=>?_,hn i j hi (by omega)⟩
  · have b:=hf i (by omega) hi
    exact hn (i-1) j (by omega) (by omega) (by rw[he,b])
  · have b:=hf (j+1) (by omega) (by omega)
    rw[show j+1-1=j by omega]at b
    exact hn i (j+1) hi (by omega) (by rw[<-b,he])
variable {a x:Int}
theorem costF_drop:∀(xs:List Edge) (k:Nat) (nx:Option (Int×Int)) (l:List (Int×Int)),costF a x xs= .ok (nx,l)->∃n2,costF a x (xs.drop k)= .ok (n2,l.drop k)
  |xs,0,nx,l,h=>⟨nx,h⟩
  |[],k+1,nx,l,h=>by
    have:l=[]:=by simp[costF]at h;exact h.2
    subst this
    exact⟨nx,by simpa using h⟩
  |e::t,k+1,nx,l,h=>by
    rw[costF]at h
    split at h
    · cases h
    · cases h
    · rename_i a1 x1 l1 heq
      split at h
      · cases h
      · split at h
        · cases h
        · injection h with h
          injection h with _ hl
          subst hl
          simpa using costF_drop t k _ _ heq
theorem costG_drop {w:List Edge}(h:(costG w a x).2.2=0){k:Nat}(hk:k<w.length):costG (w.drop k) a x=((costG w a x).1.drop k,(costG w a x).2.1.drop k,0):=by
  obtain⟨hw,ha,hx,nx,l,hF,hC,hl⟩:=costG_inv h
  obtain⟨c,b⟩:=costF_drop w k nx l hF
  rw[costG_ok (way_drop hw hk) ha hx b,hC]
  simp[List.map_drop]
theorem Costs.ge {w:List Edge}{S T:List Int}(h:Costs w a x S T):∀d i,i+d+1=w.length->a<=S.getD i 0/\x<=T.getD i 0:=by
  intro d
  induction d with
  |zero=>intro i hi;have b:=h.endS;have c:=h.endT;rw[show w.length-1=i by omega]at b c;omega
  |succ d ih=>
    intro i hi
    have b:=ih (i+1) (by omega)
    obtain⟨e,f,j,k⟩:=h.step i (by omega)
    have hf:=feeG_bound (w.getD (i+1) noEdge).pol (S.getD (i+1) 0)
    have hok:=edgeOk_T (wayG_at h.way (i:=i+1) (by omega)).1
    have hp:=polOk_T hok.2.2.2.2.2
    omega
end Go.Gsp
namespace Go.Gsp
open Go.Osp Go.Num
end Go.Gsp

namespace Go.Stab
variable {α:Type}
structure SWO (lt:α->α->Bool):Prop where
  asym:∀{x y},lt x y=true->lt y x=false
  ntr:∀{x y z},lt x z=true->lt x y=true\/lt y z=true
variable {lt:α->α->Bool}
theorem SWO.irr (h:SWO lt)(x:α):lt x x=false:=by
  cases e:lt x x
  · rfl
  · have:=h.asym e;rw[e]at this;cases this
theorem SWO.le_trans (h:SWO lt){x y z:α}(h1:lt y x=false)(h2:lt z y=false):lt z x=false:=by
  cases e:lt z x
  · rfl
  · rcases h.ntr (y:=y) e with q|q
    · rw[h2]at q;cases q
    · rw[h1]at q;cases q
theorem SWO.lt_le (h:SWO lt){x y z:α}(h1:lt x y=true)(h2:lt z y=false):lt x z=true:=by
  rcases h.ntr (y:=z) h1 with q|q
  · exact q
  · rw[h2]at q;cases q
theorem SWO.le_lt (h:SWO lt){x y z:α}(h1:lt y x=false)(h2:lt y z=true):lt x z=true:=by
  rcases h.ntr (y:=x) h2 with q|q
  · rw[h1]at q;cases q
  · exact q
def eqv (lt:α->α->Bool)(x y:α):Bool:= !lt x y&& !lt y x
theorem eqv_T {x y:α}:eqv lt x y=true↔lt x y=false/\lt y x=false:=by simp[eqv]
theorem eqv_refl (h:SWO lt)(x:α):eqv lt x x=true:=eqv_T.2 ⟨h.irr x,h.irr x⟩
def Sorted (lt:α->α->Bool)(l:List α):Prop:=l.Pairwise fun x y=>lt y x=false
def Stab (lt:α->α->Bool)(xs zs:List α):Prop:=Sorted lt zs/\∀x,zs.filter (eqv lt x)=xs.filter (eqv lt x)
theorem Stab.refl {xs:List α}(h:Sorted lt xs):Stab lt xs xs:=⟨h,fun _=>rfl⟩
theorem Stab.trans {xs ys zs:List α}(h:∀x,ys.filter (eqv lt x)=xs.filter (eqv lt x))(k:Stab lt ys zs):Stab lt xs zs:=⟨k.1,fun x=>(k.2 x).trans (h x)⟩
theorem filt_mem (hs:SWO lt){xs zs:List α}(h:∀x,zs.filter (eqv lt x)=xs.filter (eqv lt x)){y:α}(hy:y∈zs):y∈xs:=by
  have:y∈zs.filter (eqv lt y):=List.mem_filter.2 ⟨hy,eqv_refl hs y⟩
  rw[h y]at this
  exact(List.mem_filter.1 this).1
theorem Stab.mem (hs:SWO lt){xs zs:List α}(h:Stab lt xs zs){y:α}:y∈zs↔y∈xs:=⟨filt_mem hs h.2,filt_mem hs (fun x=>(h.2 x).symm)⟩
theorem sorted_uniq (hs:SWO lt):∀{xs zs:List α},Sorted lt xs->Sorted lt zs->(∀x,zs.filter (eqv lt x)=xs.filter (eqv lt x))->zs=xs
  |[],[],_,_,_=>rfl
  |[],z::zs,_,_,h=>by have:=filt_mem hs h (List.mem_cons_self (a:=z));cases this
  |x::xs,[],_,_,h=>by have:=filt_mem hs (fun c=>(h c).symm) (List.mem_cons_self (a:=x));cases this
  |x::xs,z::zs,h1,h2,h=>by
    have hx:=List.pairwise_cons.1 h1
    have hz:=List.pairwise_cons.1 h2
    have e:eqv lt z x=true:=by
      have b:=filt_mem hs h (List.mem_cons_self (a:=z))
      have d:=filt_mem hs (fun c=>(h c).symm) (List.mem_cons_self (a:=x))
      rcases List.mem_cons.1 b with rfl|b
      · exact eqv_refl hs _
      rcases List.mem_cons.1 d with rfl|d
      · exact eqv_refl hs _
      exact eqv_T.2 ⟨hx.1 z b,hz.1 x d⟩
    have f:=h z
    rw[List.filter_cons_of_pos (eqv_refl hs z),List.filter_cons_of_pos e]at f
    injection f with e3 _
    subst e3
    have ht:∀c,zs.filter (eqv lt c)=xs.filter (eqv lt c):=by
      intro c
      have:=h c
      rw[List.filter_cons,List.filter_cons]at this
      split at this
      · injection this
      · exact this
    rw[sorted_uniq hs hx.2 hz.2 ht]
theorem Stab.same (hs:SWO lt){xs zs:List α}(h:Sorted lt xs)(h2:Stab lt xs zs):zs=xs:=sorted_uniq hs h h2.1 h2.2
theorem filt_comm (hs:SWO lt){A B:List α}(h:∀a∈A,∀b∈B,lt b a=true)(c:α):(B++A).filter (eqv lt c)=(A++B).filter (eqv lt c):=by
  rw[List.filter_append,List.filter_append]
  cases hA:A.filter (eqv lt c)with
  |nil=>simp
  |cons a t=>
    have ha:a∈A.filter (eqv lt c):=by rw[hA];exact List.mem_cons_self
    have d:=List.mem_filter.1 ha
    have hB:B.filter (eqv lt c)=[]:=by
      rw[List.filter_eq_nil_iff]
      intro b hb he
      have e:=h a d.1 b hb
      have f:=eqv_T.1 he
      have i:=eqv_T.1 d.2
      rcases hs.ntr (y:=c) e with q|q
      · rw[f.2]at q;cases q
      · rw[i.1]at q;cases q
    rw[hB];simp
theorem merge4 (hs:SWO lt){u1 u2 v1 v2 z1 z2:List α}(hu:Sorted lt (u1++u2))(hv:Sorted lt (v1++v2))(h1:∀x∈u2,∀y∈v1,lt y x=true)(h2:∀x∈u1,∀y∈v2,lt y x=false)(s1:Stab lt (u1++v1) z1)(s2:Stab lt (u2++v2) z2):
    Stab lt ((u1++u2)++(v1++v2)) (z1++z2):=by
  have d:=(List.pairwise_append.1 hu).2.2
  have e:=(List.pairwise_append.1 hv).2.2
  refine⟨List.pairwise_append.2 ⟨s1.1,s2.1,fun x hx y hy=>?_⟩,fun c=>?_⟩
  · rcases List.mem_append.1 ((s1.mem hs).1 hx)with a|a<;>rcases List.mem_append.1 ((s2.mem hs).1 hy)with b|b
    · exact d x a y b
    · exact h2 x a y b
    · exact hs.asym (h1 y b x a)
    · exact e x a y b
  · have hc:=filt_comm hs h1 c
    rw[List.filter_append,List.filter_append]at hc
    rw[List.filter_append,s1.2 c,s2.2 c]
    simp only[List.filter_append,List.append_assoc]
    rw[<-List.append_assoc (List.filter _ v1),hc,List.append_assoc]
def seg (a b:Nat)(xs:List α):List α:=(xs.drop a).take (b-a)
theorem seg_length {a b:Nat}{xs:List α}(h:b<=xs.length):(seg a b xs).length=b-a:=by simp[seg];omega
theorem seg_getD {a b k:Nat}{xs:List α}{d:α}(h:k<b-a):(seg a b xs).getD k d=xs.getD (a+k) d:=by
  simp[seg,List.getD,List.getElem?_take,List.getElem?_drop,h]
theorem seg_append {a m b:Nat}{xs:List α}(h1:a<=m)(h2:m<=b):seg a b xs=seg a m xs++seg m b xs:=by
  unfold seg
  rw[show b-a=(m-a)+(b-m) by omega,List.take_add,List.drop_drop,show a+(m-a)=m by omega]
theorem seg_all (xs:List α):seg 0 xs.length xs=xs:=by simp[seg]
theorem ext_g {d:α}{xs ys:List α}(hl:xs.length=ys.length)(h:∀k,k<xs.length->xs.getD k d=ys.getD k d):xs=ys:=by
  apply List.ext_getElem hl
  intro k b c
  have:=h k b
  simpa[List.getD,b,c]using this
theorem seg_ext {d:α}{a b a' b':Nat}{xs ys:List α}(hx:b<=xs.length)(hy:b'<=ys.length)(hl:b-a=b'-a')(h:∀k,k<b-a->xs.getD (a+k) d=ys.getD (a'+k) d):seg a b xs=seg a' b' ys:=by
  refine ext_g (d:=d) (by rw[seg_length hx,seg_length hy,hl]) fun k hk=>?_
  rw[seg_length hx]at hk
  rw[seg_getD hk,seg_getD (by omega),h k hk]
theorem mem_seg {d:α}{a b:Nat}{xs:List α}(hb:b<=xs.length){x:α}:x∈seg a b xs↔∃k,a<=k/\k<b/\xs.getD k d=x:=by
  rw[List.mem_iff_getElem]
  constructor
  · rintro⟨k,hk,he⟩
    have c:=hk
    rw[seg_length hb]at c
    refine⟨a+k,by omega,by omega,?_⟩
    rw[<-seg_getD (b:=b) c,<-he]
    simp[List.getD,hk]
  · rintro⟨k,e,f,he⟩
    have hk:k-a<(seg a b xs).length:=by rw[seg_length hb];omega
    refine⟨k-a,hk,?_⟩
    have:=seg_getD (xs:=xs) (d:=d) (show k-a<b-a by omega)
    rw[show a+(k-a)=k by omega,he]at this
    rw[<-this]
    simp[List.getD,hk]
def Srt (lt:α->α->Bool)(d:α)(a b:Nat)(xs:List α):Prop:=∀i j,a<=i->i<j->j<b->lt (xs.getD j d) (xs.getD i d)=false
theorem srt_seg {d:α}{a b:Nat}{xs:List α}(hb:b<=xs.length):Srt lt d a b xs↔Sorted lt (seg a b xs):=by
  unfold Sorted
  rw[List.pairwise_iff_getElem]
  have hl:=seg_length (a:=a) hb
  have hg:∀k (hk:k<(seg a b xs).length),(seg a b xs)[k]=xs.getD (a+k) d:=fun k hk=>by
    rw[<-seg_getD (b:=b) (by omega)];simp[List.getD,hk]
  constructor
  · intro h i j hi hj hij
    rw[hg i hi,hg j hj]
    exact h _ _ (by omega) (by omega) (by omega)
  · intro h i j c e f
    have:=h (i-a) (j-a) (by omega) (by omega) (by omega)
    rw[hg _ (by omega),hg _ (by omega),show a+(i-a)=i by omega,show a+(j-a)=j by omega]at this
    exact this
theorem Srt.sub {d:α}{a b a' b':Nat}{xs:List α}(h:Srt lt d a b xs)(h1:a<=a')(h2:b'<=b):Srt lt d a' b' xs:=fun i j e c f=>h i j (by omega) c (by omega)
theorem Srt.short {d:α}{a b:Nat}{xs:List α}(h:b<=a+1):Srt lt d a b xs:=fun i j c e f=>by omega
theorem Srt.cong {d:α}{a b:Nat}{xs ys:List α}(h:Srt lt d a b xs)(he:∀i,a<=i->i<b->ys.getD i d=xs.getD i d):Srt lt d a b ys:=fun i j c f e=>by
  rw[he i c (by omega),he j (by omega) e];exact h i j c f e
structure Part (lt:α->α->Bool)(d:α)(a b:Nat)(xs ys:List α):Prop where
  len:ys.length=xs.length
  out:∀i,i<a\/b<=i->ys.getD i d=xs.getD i d
  stab:Stab lt (seg a b xs) (seg a b ys)
theorem Part.srt {d:α}{a b:Nat}{xs ys:List α}(h:Part lt d a b xs ys)(hb:b<=xs.length):Srt lt d a b ys:=(srt_seg (by rw[h.len];exact hb)).2 h.stab.1
theorem Part.refl {d:α}{a b:Nat}{xs:List α}(h:Srt lt d a b xs)(hb:b<=xs.length):Part lt d a b xs xs:=⟨rfl,fun _ _=>rfl,.refl ((srt_seg hb).1 h)⟩
theorem split3 {a b:Nat}{xs:List α}(h1:a<=b)(h2:b<=xs.length):xs=seg 0 a xs++(seg a b xs++seg b xs.length xs):=by
  rw[<-seg_append h1 h2,<-seg_append (Nat.zero_le a) (by omega),seg_all]
theorem Part.filt {d:α}{a b:Nat}{xs ys:List α}(h:Part lt d a b xs ys)(h1:a<=b)(h2:b<=xs.length)(c:α):ys.filter (eqv lt c)=xs.filter (eqv lt c):=by
  have hl:=h.len
  rw[split3 (xs:=ys) h1 (by omega),split3 (xs:=xs) h1 h2]
  rw[List.filter_append,List.filter_append,List.filter_append,List.filter_append,h.stab.2 c]
  rw[seg_ext (d:=d) (xs:=ys) (ys:=xs) (a:=0) (b:=a) (a':=0) (b':=a) (by omega) (by omega) rfl (fun k hk=>h.out _ (.inl (by omega)))]
  rw[seg_ext (d:=d) (xs:=ys) (ys:=xs) (a:=b) (b:=ys.length) (a':=b) (b':=xs.length) (by omega) (by omega) (by omega) (fun k hk=>h.out _ (.inr (by omega)))]
theorem part_all {d:α}{xs ys:List α}{n:Nat}(hl:ys.length=n)(hx:xs.length=n)(hf:∀c,ys.filter (eqv lt c)=xs.filter (eqv lt c))(hs:Srt lt d 0 n ys):Stab lt xs ys:=by
  subst hl
  refine⟨?_,hf⟩
  have:=(srt_seg (Nat.le_refl _)).1 hs
  rwa [seg_all]at this
def swp (d:α)(i j:Nat)(xs:List α):List α:=(xs.set i (xs.getD j d)).set j (xs.getD i d)
theorem swp_len (d:α)(i j:Nat)(xs:List α):(swp d i j xs).length=xs.length:=by simp[swp]
theorem swp_at {d:α}{i j k:Nat}{xs:List α}(hi:i<xs.length)(hj:j<xs.length):(swp d i j xs).getD k d=if k=j then xs.getD i d else if k=i then xs.getD j d else xs.getD k d:=by
  unfold swp
  simp only[List.getD_eq_getElem?_getD,List.getElem?_set,List.length_set]
  by_cases b:j=k
  · subst b;simp[hj]
  · by_cases c:i=k
    · subst c;simp[b,Ne.symm b,hi]
    · simp[b,c,Ne.symm b,Ne.symm c]
def swR (d:α)(a b:Nat):Nat->List α->List α
  |0,xs=>xs
  |t+1,xs=>swp d (a+t) (b+t) (swR d a b t xs)
theorem swR_len (d:α)(a b:Nat)(xs:List α):∀t,(swR d a b t xs).length=xs.length
  |0=>rfl
  |t+1=>by rw[swR,swp_len,swR_len d a b xs t]
theorem swR_at {d:α}{a b k:Nat}{xs:List α}:∀t,a+t<=b->b+t<=xs.length->(swR d a b t xs).getD k d=if a<=k/\k<a+t then xs.getD (b+(k-a)) d else if b<=k/\k<b+t then xs.getD (a+(k-b)) d else xs.getD k d
  |0,_,_=>by rw[swR,if_neg (by omega),if_neg (by omega)]
  |t+1,h1,h2=>by
    have ih:=fun k=>swR_at (d:=d) (k:=k) (xs:=xs) t (by omega:a+t<=b) (by omega)
    rw[swR,swp_at (by rw[swR_len];omega) (by rw[swR_len];omega),ih,ih,ih]
    repeat' split
    all_goals first|rfl|(exfalso;omega)|(congr 1;omega)
structure Rot (d:α)(a m b:Nat)(xs ys:List α):Prop where
  len:ys.length=xs.length
  at_:∀k,ys.getD k d=if a<=k/\k<a+(b-m)then xs.getD (m+(k-a)) d else if a+(b-m)<=k/\k<b then xs.getD (k-(b-m)) d else xs.getD k d
theorem Rot.step1 {d:α}{m i j:Nat}{xs ys:List α}(hm:i<=m)(hl:m+j<=xs.length)(hij:j<i)(h:Rot d (m-(i-j)) m (m+j) (swR d (m-i) m j xs) ys):Rot d (m-i) m (m+j) xs ys:=by
  refine⟨by rw[h.len,swR_len],fun k=>?_⟩
  rw[h.at_ k,swR_at j (by omega) (by omega),swR_at j (by omega) (by omega),swR_at j (by omega) (by omega)]
  repeat' split
  all_goals first|rfl|(exfalso;omega)|(congr 1;omega)
theorem Rot.step2 {d:α}{m i j:Nat}{xs ys:List α}(hm:i<=m)(hl:m+j<=xs.length)(hij:i<j)(h:Rot d (m-i) m (m+(j-i)) (swR d (m-i) (m+j-i) i xs) ys):Rot d (m-i) m (m+j) xs ys:=by
  refine⟨by rw[h.len,swR_len],fun k=>?_⟩
  rw[h.at_ k,swR_at i (by omega) (by omega),swR_at i (by omega) (by omega),swR_at i (by omega) (by omega)]
  repeat' split
  all_goals first|rfl|(exfalso;omega)|(congr 1;omega)
theorem Rot.last {d:α}{m i:Nat}{xs:List α}(hm:i<=m)(hl:m+i<=xs.length):Rot d (m-i) m (m+i) xs (swR d (m-i) m i xs):=by
  refine⟨swR_len _ _ _ _ _,fun k=>?_⟩
  rw[swR_at i (by omega) (by omega)]
  repeat' split
  all_goals first|rfl|(exfalso;omega)|(congr 1;omega)
theorem Rot.none {d:α}{a m b:Nat}{xs:List α}(h1:a<=m)(h2:m<=b)(h:¬(a<m/\m<b)):Rot d a m b xs xs:=by
  refine⟨rfl,fun k=>?_⟩
  repeat' split
  all_goals first|rfl|(exfalso;omega)|(congr 1;omega)
theorem merge_part (hs:SWO lt){d:α}{a m b st en mid:Nat}{xs ys z1 zs:List α}(h1:a<=st)(h2:st<=m)(h3:m<=en)(h4:en<=b)(hb:b<=xs.length)(hmid:mid=st+(en-m))(su:Srt lt d a m xs)(sv:Srt lt d m b xs)
    (hlt:st<m->m<en->lt (xs.getD (en-1) d) (xs.getD st d)=true)(hle:a<st->en<b->lt (xs.getD en d) (xs.getD (st-1) d)=false)(hr:Rot d st m en xs ys)(p1:Part lt d a mid ys z1)(p2:Part lt d mid b z1 zs):Part lt d a b xs zs:=by
  have v:=hr.len
  have z:=p1.len
  have A:=p2.len
  have au:∀i j,a<=i->i<=j->j<m->lt (xs.getD j d) (xs.getD i d)=false:=fun i j c n f=>by
    by_cases e:i=j
    · subst e;exact hs.irr _
    · exact su i j c (by omega) f
  have av:∀i j,m<=i->i<=j->j<b->lt (xs.getD j d) (xs.getD i d)=false:=fun i j c n f=>by
    by_cases e:i=j
    · subst e;exact hs.irr _
    · exact sv i j c (by omega) f
  have o:seg a mid ys=seg a st xs++seg m en xs:=by
    rw[seg_append (m:=st) h1 (by omega)]
    congr 1
    · refine seg_ext (d:=d) (by omega) (by omega) rfl fun k hk=>?_
      rw[hr.at_,if_neg (by omega),if_neg (by omega)]
    · refine seg_ext (d:=d) (by omega) (by omega) (by omega) fun k hk=>?_
      rw[hr.at_,if_pos (by omega),show st+k-st=k by omega]
  have s:seg mid b ys=seg st m xs++seg en b xs:=by
    rw[seg_append (m:=en) (by omega) h4]
    congr 1
    · refine seg_ext (d:=d) (by omega) (by omega) (by omega) fun k hk=>?_
      rw[hr.at_,if_neg (by omega),if_pos (by omega)]
      congr 1;omega
    · refine seg_ext (d:=d) (by omega) (by omega) (by omega) fun k hk=>?_
      rw[hr.at_,if_neg (by omega),if_neg (by omega)]
  have t:seg mid b z1=seg mid b ys:=seg_ext (d:=d) (by omega) (by omega) rfl fun k hk=>p1.out _ (.inr (by omega))
  have u:seg a mid zs=seg a mid z1:=seg_ext (d:=d) (by omega) (by omega) rfl fun k hk=>p2.out _ (.inl (by omega))
  refine⟨by omega,fun i hi=>?_,?_⟩
  · rw[p2.out i (by omega),p1.out i (by omega),hr.at_,if_neg (by omega),if_neg (by omega)]
  · rw[seg_append (xs:=zs) (m:=mid) (by omega) (by omega),u,seg_append (xs:=xs) (m:=m) (by omega) (by omega),seg_append (xs:=xs) h1 h2,seg_append (xs:=xs) h3 h4]
    refine merge4 hs ?_ ?_ ?_ ?_ (by rw[<-o];exact p1.stab) (by rw[<-s,<-t];exact p2.stab)
    · rw[<-seg_append h1 h2];exact(srt_seg (by omega)).1 su
    · rw[<-seg_append h3 h4];exact(srt_seg (by omega)).1 sv
    · intro x hx y hy
      obtain⟨i,i1,i2,rfl⟩:=(mem_seg (d:=d) (by omega)).1 hx
      obtain⟨j,h,l,rfl⟩:=(mem_seg (d:=d) (by omega)).1 hy
      have q:=hlt (by omega) (by omega)
      exact hs.le_lt (av j (en-1) h (by omega) (by omega)) (hs.lt_le q (au st i (by omega) i1 i2))
    · intro x hx y hy
      obtain⟨i,i1,i2,rfl⟩:=(mem_seg (d:=d) (by omega)).1 hx
      obtain⟨j,h,l,rfl⟩:=(mem_seg (d:=d) (by omega)).1 hy
      have q:=hle (by omega) (by omega)
      exact hs.le_trans (hs.le_trans (au i (st-1) i1 (by omega) (by omega)) q) (av en j (by omega) h l)
def goUp (d:α)(a:Nat):Nat->List α->List α
  |0,xs=>xs
  |t+1,xs=>swp d (a+t) (a+t+1) (goUp d a t xs)
theorem goUp_len (d:α)(a:Nat)(xs:List α):∀t,(goUp d a t xs).length=xs.length
  |0=>rfl
  |t+1=>by rw[goUp,swp_len,goUp_len d a xs t]
theorem goUp_at {d:α}{a k:Nat}{xs:List α}:∀t,a+t<xs.length->(goUp d a t xs).getD k d=if a<=k/\k<a+t then xs.getD (k+1) d else if k=a+t then xs.getD a d else xs.getD k d
  |0,_=>by
    rw[goUp,if_neg (by omega)]
    split
    · subst_vars;rfl
    · rfl
  |t+1,h=>by
    have ih:=fun k=>goUp_at (d:=d) (k:=k) (xs:=xs) t (by omega:a+t<xs.length)
    rw[goUp,swp_at (by rw[goUp_len];omega) (by rw[goUp_len];omega),ih,ih,ih]
    repeat' split
    all_goals first|rfl|(exfalso;omega)|(congr 1;omega)
def goDn (d:α)(m:Nat):Nat->List α->List α
  |0,xs=>xs
  |t+1,xs=>swp d (m-t) (m-t-1) (goDn d m t xs)
theorem goDn_len (d:α)(m:Nat)(xs:List α):∀t,(goDn d m t xs).length=xs.length
  |0=>rfl
  |t+1=>by rw[goDn,swp_len,goDn_len d m xs t]
theorem goDn_at {d:α}{m k:Nat}{xs:List α}:∀t,t<=m->m<xs.length->(goDn d m t xs).getD k d=if m-t<k/\k<=m then xs.getD (k-1) d else if k=m-t then xs.getD m d else xs.getD k d
  |0,_,_=>by
    rw[goDn,if_neg (by omega)]
    split
    · rename_i e;rw[e];rfl
    · rfl
  |t+1,h1,h2=>by
    have ih:=fun k=>goDn_at (d:=d) (k:=k) (xs:=xs) t (by omega:t<=m) h2
    rw[goDn,swp_at (by rw[goDn_len];omega) (by rw[goDn_len];omega),ih,ih,ih]
    repeat' split
    all_goals first|rfl|(exfalso;omega)|(congr 1;omega)
theorem goUp_rot {d:α}{a t:Nat}{xs:List α}(h:a+t<xs.length):Rot d a (a+1) (a+1+t) xs (goUp d a t xs):=by
  refine⟨goUp_len _ _ _ _,fun k=>?_⟩
  rw[goUp_at t h]
  repeat' split
  all_goals first|rfl|(exfalso;omega)|(congr 1;omega)
theorem goDn_rot {d:α}{m t:Nat}{xs:List α}(h1:t<=m)(h2:m<xs.length):Rot d (m-t) m (m+1) xs (goDn d m t xs):=by
  refine⟨goDn_len _ _ _ _,fun k=>?_⟩
  rw[goDn_at t h1 h2]
  repeat' split
  all_goals first|rfl|(exfalso;omega)|(congr 1;omega)
theorem ins_front (hs:SWO lt){d:α}{a b i:Nat}{xs:List α}(h1:a+1<=i)(h2:i<=b)(hb:b<=xs.length)(sv:Srt lt d (a+1) b xs)(hlo:∀k,a+1<=k->k<i->lt (xs.getD k d) (xs.getD a d)=true)(hhi:∀k,i<=k->k<b->lt (xs.getD k d) (xs.getD a d)=false):
    Part lt d a b xs (goUp d a (i-(a+1)) xs):=by
  have hr:=goUp_rot (d:=d) (a:=a) (t:=i-(a+1)) (xs:=xs) (by omega)
  rw[show a+1+(i-(a+1))=i by omega]at hr
  have hl:=hr.len
  have h:∀k,a<=k->k<a+(i-(a+1))->(goUp d a (i-(a+1)) xs).getD k d=xs.getD (k+1) d:=fun k c e=>by rw[hr.at_,if_pos (by omega)];congr 1;omega
  refine merge_part hs (st:=a) (en:=i) (mid:=a+(i-(a+1))) (Nat.le_refl a) (by omega) h1 h2 hb rfl (.short (by omega)) sv (fun _ _=>hlo _ (by omega) (by omega)) (fun q=>by omega) hr
    (.refl (fun p q c e f=>by rw[h p c (by omega),h q (by omega) f];exact sv _ _ (by omega) (by omega) (by omega)) (by omega)) (.refl (fun p q c e f=>?_) (by omega))
  rw[hr.at_ q,if_neg (by omega),if_neg (by omega)]
  rw[hr.at_ p,if_neg (by omega)]
  split
  · rw[show p-(i-(a+1))=a by omega];exact hhi q (by omega) (by omega)
  · exact sv p q (by omega) e f
theorem ins_back (hs:SWO lt){d:α}{a m i:Nat}{xs:List α}(h1:a<=i)(h2:i<=m)(hb:m+1<=xs.length)(su:Srt lt d a m xs)(hlo:∀k,a<=k->k<i->lt (xs.getD m d) (xs.getD k d)=false)(hhi:∀k,i<=k->k<m->lt (xs.getD m d) (xs.getD k d)=true):
    Part lt d a (m+1) xs (goDn d m (m-i) xs):=by
  have hr:=goDn_rot (d:=d) (m:=m) (t:=m-i) (xs:=xs) (by omega) (by omega)
  rw[show m-(m-i)=i by omega]at hr
  have hl:=hr.len
  refine merge_part hs (st:=i) (en:=m+1) (mid:=i+1) h1 h2 (by omega) (Nat.le_refl _) hb (by omega) su (.short (by omega)) (fun q _=>by rw[Nat.add_sub_cancel];exact hhi i (Nat.le_refl _) q) (fun _ q=>by omega) hr
    (.refl (fun p q b c e=>?_) (by omega)) (.refl (fun p q b c e=>?_) (by omega))
  · rw[hr.at_ p,if_neg (by omega),if_neg (by omega),hr.at_ q]
    split
    · rw[show m+(q-i)=m by omega];exact hlo p b (by omega)
    · rw[if_neg (by omega)];exact su p q b c (by omega)
  · rw[hr.at_ p,if_neg (by omega),if_pos (by omega),hr.at_ q,if_neg (by omega),if_pos (by omega)]
    exact su _ _ (by omega) (by omega) (by omega)
def bubS (lt:α->α->Bool)(d:α)(a:Nat):Nat->List α->List α
  |0,xs=>xs
  |j+1,xs=>if a<j+1/\lt (xs.getD (j+1) d) (xs.getD j d)=true then bubS lt d a j (swp d (j+1) j xs)else xs
theorem bubS_goDn {d:α}{a m:Nat}:∀(s t:Nat) (xs:List α),s+t=m->a<=s->∃i,a<=i/\i<=s/\bubS lt d a s (goDn d m t xs)=goDn d m (m-i) xs/\(∀k,i<=k->k<s->lt ((goDn d m (m-(k+1)) xs).getD (k+1) d) ((goDn d m (m-(k+1)) xs).getD k d)=true)/\(a<i->lt ((goDn d m (m-i) xs).getD i d) ((goDn d m (m-i) xs).getD (i-1) d)=false)
  |0,t,xs,h,ha=>⟨0,by omega,Nat.le_refl _,by rw[bubS,show m-0=t by omega],fun k _ h=>by omega,fun h=>by omega⟩
  |s+1,t,xs,h,ha=>by
    rw[bubS]
    split
    · rename_i hc
      have e:swp d (s+1) s (goDn d m t xs)=goDn d m (t+1) xs:=by rw[goDn,show m-t=s+1 by omega,Nat.add_sub_cancel]
      obtain⟨i,i1,i2,i3,i4,i5⟩:=bubS_goDn (d:=d) (a:=a) (m:=m) s (t+1) xs (by omega) (by omega)
      refine⟨i,i1,by omega,by rw[e];exact i3,fun k k1 k2=>?_,i5⟩
      by_cases q:k=s
      · subst q;rw[show m-(k+1)=t by omega];exact hc.2
      · exact i4 k k1 (by omega)
    · rename_i hc
      refine⟨s+1,ha,Nat.le_refl _,by rw[show m-(s+1)=t by omega],fun k k1 k2=>by omega,fun q=>?_⟩
      rw[show m-(s+1)=t by omega,Nat.add_sub_cancel]
      cases e:lt ((goDn d m t xs).getD (s+1) d) ((goDn d m t xs).getD s d)
      · rfl
      · exact absurd ⟨q,e⟩ hc
theorem bubS_part (hs:SWO lt){d:α}{a m:Nat}{xs:List α}(ha:a<=m)(hm:m<xs.length)(su:Srt lt d a m xs):Part lt d a (m+1) xs (bubS lt d a m xs):=by
  obtain⟨i,i1,i2,i3,i4,i5⟩:=bubS_goDn (lt:=lt) (d:=d) (a:=a) (m:=m) m 0 xs rfl ha
  rw[show goDn d m 0 xs=xs from rfl]at i3
  rw[i3]
  refine ins_back hs i1 i2 (by omega) su (fun k k1 k2=>?_) (fun k k1 k2=>?_)
  · have h:=i5 (by omega)
    rw[goDn_at (m-i) (by omega) hm,goDn_at (m-i) (by omega) hm,if_neg (by omega),if_pos (by omega),if_neg (by omega),if_neg (by omega)]at h
    by_cases e:k=i-1
    · subst e;exact h
    · exact hs.le_trans (su k (i-1) k1 (by omega) (by omega)) h
  · have h:=i4 k k1 k2
    rw[goDn_at (m-(k+1)) (by omega) hm,goDn_at (m-(k+1)) (by omega) hm,if_neg (by omega),if_pos (by omega),if_neg (by omega),if_neg (by omega)]at h
    exact h
theorem Part.then_ {d:α}{a m b:Nat}{xs ys zs:List α}(h1:Part lt d a m xs ys)(h2:Part lt d a b ys zs)(hm:a<=m)(hb:m<=b)(hl:b<=xs.length):Part lt d a b xs zs:=by
  have e:=h1.len
  refine⟨by rw[h2.len,h1.len],fun i hi=>by rw[h2.out i hi,h1.out i (by omega)],h2.stab.1,fun c=>?_⟩
  rw[h2.stab.2 c,seg_append (xs:=ys) hm hb,seg_append (xs:=xs) hm hb,List.filter_append,List.filter_append,h1.stab.2 c]
  rw[seg_ext (d:=d) (xs:=ys) (ys:=xs) (a:=m) (b:=b) (a':=m) (b':=b) (by omega) hl rfl (fun k hk=>h1.out _ (.inr (by omega)))]
def isoS (lt:α->α->Bool)(d:α)(a b i:Nat)(xs:List α):List α:=(List.range' i (b-i)).foldl (fun l i=>bubS lt d a i l) xs
def isortS (lt:α->α->Bool)(d:α)(a b:Nat)(xs:List α):List α:=isoS lt d a b (a+1) xs
theorem isoS_end {d:α}{a b i:Nat}{xs:List α}(h:b<=i):isoS lt d a b i xs=xs:=by unfold isoS;rw[show b-i=0 by omega];rfl
theorem isoS_step {d:α}{a b i:Nat}{xs:List α}(h:i<b):isoS lt d a b i xs=isoS lt d a b (i+1) (bubS lt d a i xs):=by
  unfold isoS
  rw[show b-i=(b-(i+1))+1 by omega,List.range'_succ]
  rfl
theorem isoS_part (hs:SWO lt){d:α}{a b:Nat}:∀(k i:Nat) (xs:List α),b-i=k->a<=i->i<=b->b<=xs.length->Srt lt d a i xs->Part lt d a b xs (isoS lt d a b i xs)
  |0,i,xs,hk,h1,h2,h3,h4=>by
    have:i=b:=by omega
    subst this
    rw[isoS_end (Nat.le_refl _)]
    exact .refl h4 h3
  |k+1,i,xs,hk,h1,h2,h3,h4=>by
    rw[isoS_step (by omega)]
    have p:=bubS_part hs h1 (by omega) h4
    exact p.then_ (isoS_part hs k (i+1) _ (by omega) (by omega) (by omega) (by rw[p.len];exact h3) (p.srt (by omega))) (by omega) (by omega) h3
theorem isortS_part (hs:SWO lt){d:α}{a b:Nat}{xs:List α}(h:a<=b)(hb:b<=xs.length):Part lt d a b xs (isortS lt d a b xs):=by
  unfold isortS
  by_cases e:a+1<=b
  · exact isoS_part hs _ _ _ rfl (by omega) e hb (.short (Nat.le_refl _))
  · rw[isoS_end (by omega)]
    exact .refl (.short (by omega)) hb
def Blks (lt:α->α->Bool)(d:α)(s n:Nat)(xs:List α):Prop:=∀k,Srt lt d (k*s) (min (k*s+s) n) xs
def Half (lt:α->α->Bool)(d:α)(s K n:Nat)(xs:List α):Prop:=(∀k,k<K->Srt lt d (k*(2*s)) (k*(2*s)+2*s) xs)/\∀k,2*K<=k->Srt lt d (k*s) (min (k*s+s) n) xs
theorem two_mul' (K s:Nat):K*(2*s)=2*K*s:=by rw[<-Nat.mul_assoc,Nat.mul_comm K 2]
theorem Half.first {d:α}{s n:Nat}{xs:List α}(h:Blks lt d s n xs):Half lt d s 0 n xs:=⟨fun k hk=>by omega,fun k _=>h k⟩
theorem Half.left {d:α}{s K n:Nat}{xs:List α}(h:Half lt d s K n xs)(hb:K*(2*s)+s<=n):Srt lt d (K*(2*s)) (K*(2*s)+s) xs:=by
  have:=h.2 (2*K) (Nat.le_refl _)
  rw[<-two_mul',Nat.min_eq_left hb]at this
  exact this
theorem Half.right {d:α}{s K n:Nat}{xs:List α}(h:Half lt d s K n xs):Srt lt d (K*(2*s)+s) (min (K*(2*s)+2*s) n) xs:=by
  have:=h.2 (2*K+1) (by omega)
  rw[Nat.succ_mul,<-two_mul']at this
  rwa [show K*(2*s)+s+s=K*(2*s)+2*s by omega]at this
theorem Half.next {d:α}{s K n:Nat}{xs ys:List α}(h:Half lt d s K n xs)(hb:K*(2*s)+2*s<=n)(hn:n<=xs.length)(p:Part lt d (K*(2*s)) (K*(2*s)+2*s) xs ys):Half lt d s (K+1) n ys:=by
  refine⟨fun k hk=>?_,fun k hk=>?_⟩
  · by_cases e:k=K
    · subst e;exact p.srt (by omega)
    · have q:(k+1)*(2*s)<=K*(2*s):=Nat.mul_le_mul_right _ (by omega)
      rw[Nat.succ_mul]at q
      exact(h.1 k (by omega)).cong fun i b c=>p.out i (.inl (by omega))
  · have q:(2*K+2)*s<=k*s:=Nat.mul_le_mul_right _ (by omega)
    rw[Nat.add_mul,<-two_mul']at q
    exact(h.2 k (by omega)).cong fun i b c=>p.out i (.inr (by omega))
theorem Half.done {d:α}{s K n:Nat}{xs ys:List α}(h:Half lt d s K n xs)(ha:K*(2*s)<=n)(hb:n<K*(2*s)+2*s)(hn:n<=xs.length)(p:Part lt d (K*(2*s)) n xs ys):Blks lt d (2*s) n ys:=by
  intro k
  by_cases e:k=K
  · subst e;rw[Nat.min_eq_right (by omega)];exact p.srt (by omega)
  · by_cases b:k<K
    · have q:(k+1)*(2*s)<=K*(2*s):=Nat.mul_le_mul_right _ (by omega)
      rw[Nat.succ_mul]at q
      rw[Nat.min_eq_left (by omega)]
      exact(h.1 k b).cong fun i c f=>p.out i (.inl (by omega))
    · have q:(K+1)*(2*s)<=k*(2*s):=Nat.mul_le_mul_right _ (by omega)
      rw[Nat.succ_mul]at q
      exact fun i j c f l=>by omega
theorem Half.rest {d:α}{s K n:Nat}{xs:List α}(h:Half lt d s K n xs)(ha:K*(2*s)<=n)(hm:n<=K*(2*s)+s)(hn:n<=xs.length):Part lt d (K*(2*s)) n xs xs:=by
  have:=h.2 (2*K) (Nat.le_refl _)
  rw[<-two_mul',Nat.min_eq_right hm]at this
  exact .refl this hn
theorem Blks.all {d:α}{s n:Nat}{xs:List α}(h:Blks lt d s n xs)(hs:n<=s):Srt lt d 0 n xs:=by
  have:=h 0
  rw[Nat.zero_mul,Nat.zero_add,Nat.min_eq_right hs]at this
  exact this
end Go.Stab

namespace Go.Stab
section
variable {α:Type}{lt:α->α->Bool}{d:α}{a b m st en mid h k:Nat}{xs ys zs z1:List α}{x:α}
theorem srt_le (hs:SWO lt)(s:Srt lt d a b xs)(h1:a<=k)(h2:k<=h)(h3:h<b):lt (xs.getD h d) (xs.getD k d)=false:=by
  by_cases e:k=h
  · subst e;exact hs.irr _
  · exact s k h h1 (by omega) h3
theorem mono1 (hs:SWO lt)(s:Srt lt d a b xs)(h1:a<=k)(h2:k<=h)(h3:h<b)(q:lt (xs.getD h d) x=true):lt (xs.getD k d) x=true:=hs.le_lt (srt_le hs s h1 h2 h3) q
theorem mono2 (hs:SWO lt)(s:Srt lt d a b xs)(h1:a<=h)(h2:h<=k)(h3:k<b)(q:lt (xs.getD h d) x=false):lt (xs.getD k d) x=false:=hs.le_trans q (srt_le hs s h1 h2 h3)
theorem mono3 (hs:SWO lt)(s:Srt lt d a b xs)(h1:a<=k)(h2:k<=h)(h3:h<b)(q:lt x (xs.getD h d)=false):lt x (xs.getD k d)=false:=hs.le_trans (srt_le hs s h1 h2 h3) q
theorem mono4 (hs:SWO lt)(s:Srt lt d a b xs)(h1:a<=h)(h2:h<=k)(h3:k<b)(q:lt x (xs.getD h d)=true):lt x (xs.getD k d)=true:=hs.lt_le q (srt_le hs s h1 h2 h3)
theorem srch_lo (hs:SWO lt){p c:Nat}(su:Srt lt d a m xs)(sv:Srt lt d m b xs)(h1:a<=k)(h2:k<=c)(h3:c<m)(h4:m<=p-c)(h5:p-k<b)(h6:k<=p)(h7:c<=p)(q:lt (xs.getD (p-c) d) (xs.getD c d)=false):lt (xs.getD (p-k) d) (xs.getD k d)=false:=
  mono3 hs su h1 h2 h3 (mono2 hs sv h4 (by omega) h5 q)
theorem srch_hi (hs:SWO lt){p c:Nat}(su:Srt lt d a m xs)(sv:Srt lt d m b xs)(h1:a<=c)(h2:c<=k)(h3:k<m)(h4:m<=p-k)(h5:p-c<b)(h6:k<=p)(q:lt (xs.getD (p-c) d) (xs.getD c d)=true):lt (xs.getD (p-k) d) (xs.getD k d)=true:=
  mono4 hs su h1 h2 h3 (mono1 hs sv h4 (by omega) h5 q)
theorem rot_srt1 (hr:Rot d st m en xs ys)(h1:st<=m)(su:Srt lt d a m xs):Srt lt d a st ys:=(su.sub (Nat.le_refl _) h1).cong fun i b c=>by rw[hr.at_,if_neg (by omega),if_neg (by omega)]
theorem rot_srt2 (hr:Rot d st m en xs ys)(hm:mid=st+(en-m))(h3:en<=b)(sv:Srt lt d m b xs):Srt lt d st mid ys:=fun i j c e f=>by
  rw[hr.at_ i,if_pos (by omega),hr.at_ j,if_pos (by omega)]
  exact sv _ _ (by omega) (by omega) (by omega)
theorem rot_srt3 (hr:Rot d st m en xs ys)(hm:mid=st+(en-m))(h1:st<=m)(h2:m<=en)(ha:a<=st)(su:Srt lt d a m xs):Srt lt d mid en ys:=fun i j b c e=>by
  rw[hr.at_ i,if_neg (by omega),if_pos (by omega),hr.at_ j,if_neg (by omega),if_pos (by omega)]
  exact su _ _ (by omega) (by omega) (by omega)
theorem rot_srt4 (hr:Rot d st m en xs ys)(h1:st<=m)(h2:m<=en)(sv:Srt lt d m b xs):Srt lt d en b ys:=(sv.sub h2 (Nat.le_refl _)).cong fun i c e=>by rw[hr.at_,if_neg (by omega),if_neg (by omega)]
theorem part_keep (p:Part lt d a mid ys z1)(hm:mid<=st)(s:Srt lt d st en ys):Srt lt d st en z1:=s.cong fun i b c=>p.out i (by omega)
theorem side_left (hr:Rot d st m en xs ys)(hm:mid=st+(en-m))(h0:a<=st)(h1:st<=m)(h2:m<=en)(h3:en<=b)(su:Srt lt d a m xs)(sv:Srt lt d m b xs)(hb:b<=xs.length)(hn:¬(a<st/\st<mid)):Part lt d a mid ys ys:=by
  refine .refl ?_ (by have:=hr.len;omega)
  by_cases e:a<st
  · have:st=mid:=by omega
    rw[<-this];exact rot_srt1 hr h1 su
  · have:a=st:=by omega
    subst this;exact rot_srt2 hr hm h3 sv
theorem side_right (hr:Rot d st m en xs ys)(hm:mid=st+(en-m))(h0:a<=st)(h1:st<=m)(h2:m<=en)(h3:en<=b)(su:Srt lt d a m xs)(sv:Srt lt d m b xs)(hb:b<=xs.length)(p:Part lt d a mid ys z1)(hn:¬(mid<en/\en<b)):Part lt d mid b z1 z1:=by
  refine .refl ?_ (by have:=hr.len;have:=p.len;omega)
  by_cases e:mid<en
  · have:en=b:=by omega
    rw[<-this];exact part_keep p (Nat.le_refl _) (rot_srt3 hr hm h1 h2 h0 su)
  · have:mid=en:=by omega
    rw[this];exact part_keep p (by omega) (rot_srt4 hr h1 h2 sv)
theorem blk_next {k:Nat}(p:Part lt d (20*k) (20*k+20) xs ys)(hl:20*k+20<=xs.length)(h:∀q,q<k->Srt lt d (20*q) (20*q+20) xs):∀q,q<k+1->Srt lt d (20*q) (20*q+20) ys:=fun q hq=>by
  by_cases e:q=k
  · subst e;exact p.srt hl
  · exact(h q (by omega)).cong fun i b c=>p.out i (by omega)
theorem blk_done {k n:Nat}(p:Part lt d (20*k) n xs ys)(hk:20*k<=n)(hn:n<20*k+20)(hl:n<=xs.length)(h:∀q,q<k->Srt lt d (20*q) (20*q+20) xs):Blks lt d 20 n ys:=fun q=>by
  by_cases e:q=k
  · subst e
    rw[Nat.mul_comm,Nat.min_eq_right (by omega)]
    exact p.srt hl
  · by_cases b:q<k
    · rw[Nat.mul_comm,Nat.min_eq_left (by omega)]
      exact(h q b).cong fun i c f=>p.out i (by omega)
    · exact fun i j c f l=>by omega
theorem sym_part (hs:SWO lt){st0 r0:Nat}(h1:a<m)(h2:m<b)(hb:b<=xs.length)(hmid:mid=(a+b)/2)(hc:(mid<m/\st0=mid+m-b/\r0=mid)\/(m<=mid/\st0=a/\r0=m))(h3:st0<=st)(h4:st<=r0)(he:en=mid+m-st)
    (su:Srt lt d a m xs)(sv:Srt lt d m b xs)(lo:∀c,st0<=c->c<st->lt (xs.getD (mid+m-1-c) d) (xs.getD c d)=false)(hi:∀c,st<=c->c<r0->lt (xs.getD (mid+m-1-c) d) (xs.getD c d)=true)
    (hr:Rot d st m en xs ys)(p1:Part lt d a mid ys z1)(p2:Part lt d mid b z1 zs):Part lt d a b xs zs:=by
  refine merge_part hs (st:=st) (en:=en) (by omega) (by omega) (by omega) (by omega) hb (by omega) su sv (fun e f=>?_) (fun e f=>?_) hr p1 p2
  · have:=hi st (Nat.le_refl _) (by omega)
    rw[show mid+m-1-st=en-1 by omega]at this
    exact this
  · have:=lo (st-1) (by omega) (by omega)
    rw[show mid+m-1-(st-1)=en by omega]at this
    exact this
end
end Go.Stab
namespace Go.Gsp
open Go.Stab
def ltE (a b:Edge):Bool:=decide (ordE a b<0)
theorem ltE_T {a b:Edge}:ltE a b=true↔a.c<b.c\/(a.c=b.c/\a.f<b.f):=by
  unfold ltE ordE cmpI
  rw[decide_eq_true_eq]
  repeat' split
  all_goals first|omega|simp_all
theorem ltE_F {a b:Edge}:ltE a b=false↔¬(a.c<b.c\/(a.c=b.c/\a.f<b.f)):=by
  rw[<-ltE_T];simp
theorem swoE:SWO ltE:=by
  constructor
  · intro x y h
    rw[ltE_T]at h;rw[ltE_F];omega
  · intro x y z h
    rw[ltE_T]at h;rw[ltE_T,ltE_T];omega
theorem bub_eq (a:Nat):∀(j:Nat) (xs:List Edge),bub a j xs=bubS ltE noEdge a j xs
  |0,xs=>rfl
  |j+1,xs=>by
    rw[bub,bubS]
    by_cases h:a<j+1/\ordE (xs.getD (j+1) noEdge) (xs.getD j noEdge)<0
    · rw[if_pos h,if_pos ⟨h.1,decide_eq_true h.2⟩];exact bub_eq a j _
    · rw[if_neg h,if_neg fun q=>h ⟨q.1,of_decide_eq_true q.2⟩]
theorem isort_eq (a b:Nat)(xs:List Edge):isort a b xs=isortS ltE noEdge a b xs:=by
  unfold isort isortS isoC isoS
  congr 1
  funext l i
  exact bub_eq a i l
theorem isort_part {a b:Nat}{xs:List Edge}(h:a<=b)(hb:b<=xs.length):Part ltE noEdge a b xs (isort a b xs):=by rw[isort_eq];exact isortS_part swoE h hb
theorem right_srt {g:List Edge}(h:rightG g=true):Sorted ltE g/\g.filter edgeOk=g:=by
  have hp:RightP g:=of_decide_eq_true h
  have hlt:∀i,0<i->i<g.length->ordE (g.getD (i-1) noEdge) (g.getD i noEdge)<0:=fun i b hi=>(hp i hi).2.1 b
  have chain:∀k i,i+k<g.length->ltE (g.getD (i+k) noEdge) (g.getD i noEdge)=false:=by
    intro k
    induction k with
    |zero=>intro i hi;exact swoE.irr _
    |succ k ih=>
      intro i hi
      have c:=ih i (by omega)
      have f:ltE (g.getD (i+k) noEdge) (g.getD (i+k+1) noEdge)=true:=by
        have:=hlt (i+k+1) (by omega) (by omega)
        rw[show i+k+1-1=i+k by omega]at this
        exact decide_eq_true this
      exact swoE.le_trans c (swoE.asym f)
  refine⟨?_,?_⟩
  · have:=(srt_seg (lt:=ltE) (d:=noEdge) (a:=0) (Nat.le_refl g.length)).1 (fun i j l m n=>by have:=chain (j-i) i (by omega);rwa [show i+(j-i)=j by omega]at this)
    rwa [seg_all]at this
  · rw[List.filter_eq_self]
    intro e he
    obtain⟨i,hi,rfl⟩:=List.mem_iff_getElem.1 he
    have:=(hp i hi).1
    simpa[List.getD,hi]using this
end Go.Gsp

namespace Go.Asp
open Go.Hsp Go.Osp Go.Num Go.Gsp
structure Sig where
  r:Nat
  s:Nat
deriving DecidableEq
structure Ad where
  e:Edge
  no:Int
  gone:Bool
  sg:Sig
deriving DecidableEq
def noSig:Sig:=⟨0,0⟩
def noAd:Ad:=⟨noEdge,0,false,noSig⟩
def nSig:List Byte:=[115,105,103]
def nNonce:List Byte:=[110,111,110,99,101]
def nAd:List Byte:=[97,100]
def chalB (r p:Nat)(m:List Byte):Nat:=fromB (tag nSig [be8 r,be8 p,m])
def keyB (k:Nat):Bool:=decide (k<q)&&decide (k≠0)
def nonceB (k:Nat)(m:List Byte):Nat:=fromB (tag nNonce [be8 k,m])
def ansB (k n:Nat)(m:List Byte)(t:Nat):Sig:=⟨addP (base n) t,addS n (mulS (chalB (addP (base n) t) (base k) m) k)⟩
def signB (k:Nat)(m:List Byte):Sig:=if keyB k then ansB k (nonceB k m) m 1 else noSig
def allP (l:List Nat):Nat:=l.foldl (fun o p=>o*taken p%M) 1
def negP (p:Nat):Nat:=pw (taken p) (q-1)
def checksB (p:Nat)(m:List Byte)(t:Nat)(s:Sig):Bool:= !decide (p=1)&&right p&&right t&&right s.r&&decide (s.s<q)&&decide (base s.s=allP [s.r,scale p (chalB s.r p m),negP t])
def verifyB (p:Nat)(m:List Byte)(s:Sig):Bool:=checksB p m 1 s
def edgeA (e:Edge):Bool:=inB e.f 0 11&&inB e.t 0 11&&decide (e.f≠e.t)&&inB e.c 0 39&&inB e.r 1 1125899906842624&&inB e.pol.b 0 1125899906842624&&inB e.pol.p 0 1000000&&inB e.pol.d 1 4096&&inB e.pol.l 1 e.pol.m&&decide (e.pol.m<=e.r)
def mayA (e:Edge)(no:Int):Bool:=edgeA e&&inB no 1 1048576
def rowN (n:Nat):List Byte:=if h:n<128 then[BitVec.ofNat 8 n]else BitVec.ofNat 8 (n%128+128)::rowN (n/128)
termination_by n
decreasing_by omega
def adNums (e:Edge)(no:Int)(gone:Bool):List Int:=[e.f,e.t,e.c,e.r,e.pol.b,e.pol.p,e.pol.d,e.pol.l,e.pol.m,no,if gone then 1 else 0]
def rowsN:List Int->List Byte
  |[]=>[]
  |n::l=>rowN n.toNat++rowsN l
def sumA (e:Edge)(no:Int)(gone:Bool):List Byte:=if mayA e no then tag nAd [rowsN (adNums e no gone)]else List.replicate 32 0
def signA (k:Nat)(e:Edge)(no:Int)(gone:Bool):Ad:=if mayA e no then⟨e,no,gone,signB k (sumA e no gone)⟩else noAd
def verifyA (p:Nat)(a:Ad):Bool:=mayA a.e a.no&&verifyB p (sumA a.e a.no a.gone) a.sg
def alikeE (a b:Edge):Bool:=decide (a.r=b.r)&&((decide (a.f=b.f)&&decide (a.t=b.t))||(decide (a.f=b.t)&&decide (a.t=b.f)))
theorem inB_T {n lo hi:Int}:inB n lo hi=true↔lo<=n/\n<=hi:=by simp[inB]
theorem edgeA_T {e:Edge}(h:edgeA e=true):(0<=e.f/\e.f<=11)/\(0<=e.t/\e.t<=11)/\e.f≠e.t/\(0<=e.c/\e.c<=39)/\(1<=e.r/\e.r<=1125899906842624)/\(0<=e.pol.b/\e.pol.b<=1125899906842624)/\(0<=e.pol.p/\e.pol.p<=1000000)/\(1<=e.pol.d/\e.pol.d<=4096)/\(1<=e.pol.l/\e.pol.l<=e.pol.m)/\e.pol.m<=e.r:=by
  simp only[edgeA,Bool.and_eq_true,inB_T,decide_eq_true_eq]at h
  obtain⟨⟨⟨⟨⟨⟨⟨⟨⟨i,j⟩,k⟩,n⟩,o⟩,s⟩,u⟩,v⟩,x⟩,y⟩:=h
  exact⟨i,j,k,n,o,s,u,v,x,y⟩
theorem mayA_T {e:Edge}{no:Int}(h:mayA e no=true):edgeA e=true/\1<=no/\no<=1048576:=by
  simp only[mayA,Bool.and_eq_true,inB_T]at h
  exact h
theorem sumA_length (e:Edge)(no:Int)(gone:Bool):(sumA e no gone).length=32:=by
  unfold sumA;split
  · exact tag_length _ _
  · simp
theorem tagLen3 (nm p q r:List Byte):(tagBytes nm [p,q,r]).length=32+nm.length+p.length+q.length+r.length:=by simp[tagBytes,be8_length];omega
theorem rowN_length (n:Nat)(h:n<18446744073709551616):(rowN n).length<=10:=by
  have key:∀(k n:Nat),n<128^k->0<k->(rowN n).length<=k:=by
    intro k
    induction k with
    |zero=>intro n h b;omega
    |succ k ih=>
      intro n h b
      rw[rowN]
      split
      · simp
      · rw[List.length_cons]
        have hk:0<k:=by
          rcases Nat.eq_zero_or_pos k with e|e
          · subst e;simp at h;omega
          · exact e
        have:=ih (n/128) (by rw[Nat.pow_succ]at h;omega) hk
        omega
  exact key 10 n (by omega) (by decide)
end Go.Asp

namespace Go.Bsp
open Go.Hsp Go.Osp Go.Num Go.Gsp Go.Asp
structure Sd where
  c:Int
  f:Int
deriving DecidableEq
def sdOf (a:Ad):Sd:=⟨a.e.c,a.e.f⟩
structure BookS where
  keys:List Nat
  nw:Sd->Option Ad
  wl:Sd->List Int
  ht:Int
def badB (e:Edge)(k:Sd)(x:Ad):Bool:=decide (k.c=e.c)&& !alikeE x.e e
def Twice (nw:Sd->Option Ad)(e:Edge):Prop:=∃k x,nw k=some x/\badB e k x=true
def lateB (l:List Int)(h:Int):List Int:=l.filter (fun i=> !decide (i<=h-100))
def noOf (o:Option Ad):Int:=(o.getD noAd).no
open Classical in
noncomputable def takeC (s : BookS) (a : Ad) (h : Int) : Int :=
  if mayA a.e a.no = false \/ (s.keys.length : Int) <= a.e.f \/ inB h s.ht 1048576 = false then 1
  else if verifyA (s.keys.getD a.e.f.toNat 0) a = false then 7
  else if Twice s.nw a.e then 4
  else if a.no <= noOf (s.nw (sdOf a)) then 24
  else if 4 <= (lateB (s.wl (sdOf a)) h).length then 20
  else 0
def putB (s:BookS)(a:Ad)(h:Int):BookS:=⟨s.keys,fun k=>if k=sdOf a then some a else s.nw k,fun k=>if k=sdOf a then lateB (s.wl k) h++[h]else s.wl k,h⟩
noncomputable def takeS (s : BookS) (a : Ad) (h : Int) : BookS := if takeC s a h = 0 then putB s a h else s
def bookN (keys:List Nat):BookS:=⟨keys,fun _=>none,fun _=>[],0⟩
structure GoodB (s:BookS):Prop where
  keysL:s.keys.length<=12
  keysB:∀k∈s.keys,k<18446744073709551616
  at_:∀k x,s.nw k=some x->k=sdOf x/\mayA x.e x.no=true/\x.e.f<s.keys.length/\verifyA (s.keys.getD x.e.f.toNat 0) x=true
  one:∀k x k' x',s.nw k=some x->s.nw k'=some x'->k.c=k'.c->alikeE x.e x'.e=true
  wlL:∀k,(s.wl k).length<=4
  htB:0<=s.ht/\s.ht<=1048576
theorem takeC_ok {s:BookS}{a:Ad}{h:Int}(hc:takeC s a h=0):mayA a.e a.no=true/\a.e.f<s.keys.length/\(s.ht<=h/\h<=1048576)/\verifyA (s.keys.getD a.e.f.toNat 0) a=true/\¬Twice s.nw a.e/\noOf (s.nw (sdOf a))<a.no/\(lateB (s.wl (sdOf a)) h).length<4:=by
  unfold takeC at hc
  split at hc
  · omega
  rename_i b
  split at hc
  · omega
  rename_i h2
  split at hc
  · omega
  rename_i h3
  split at hc
  · omega
  rename_i h4
  split at hc
  · omega
  rename_i h5
  have c:mayA a.e a.no=true:=by cases e:mayA a.e a.no;exact absurd (.inl e) b;rfl
  have d:inB h s.ht 1048576=true:=by cases e:inB h s.ht 1048576;exact absurd (.inr (.inr e)) b;rfl
  refine⟨c,?_,inB_T.1 d,?_,h3,by omega,by omega⟩
  · have:¬(s.keys.length:Int)<=a.e.f:=fun hh=>b (.inr (.inl hh))
    omega
  · cases e:verifyA (s.keys.getD a.e.f.toNat 0) a
    · exact absurd e h2
    · rfl
theorem takeC_0 {s:BookS}{a:Ad}{h:Int}(h1:mayA a.e a.no=true)(h2:a.e.f<s.keys.length)(h3:s.ht<=h/\h<=1048576)(h4:verifyA (s.keys.getD a.e.f.toNat 0) a=true)(h5:¬Twice s.nw a.e)(h6:noOf (s.nw (sdOf a))<a.no)(h7:(lateB (s.wl (sdOf a)) h).length<4):takeC s a h=0:=by
  unfold takeC
  rw[if_neg (by rw[h1,inB_T.2 h3];simp;omega),if_neg (by rw[h4];simp),if_neg h5,if_neg (by omega),if_neg (by omega)]
theorem alike_comm {a b:Edge}(h:alikeE a b=true):alikeE b a=true:=by
  simp[alikeE]at h ⊢
  obtain⟨e,c⟩:=h
  refine⟨e.symm,?_⟩
  rcases c with⟨c,d⟩|⟨c,d⟩
  · exact .inl ⟨c.symm,d.symm⟩
  · exact .inr ⟨d.symm,c.symm⟩
theorem alike_self (a:Edge):alikeE a a=true:=by simp[alikeE]
theorem twice_no {nw:Sd->Option Ad}{e:Edge}(h:¬Twice nw e){k:Sd}{x:Ad}(hx:nw k=some x)(hk:k.c=e.c):alikeE x.e e=true:=by
  cases h1:alikeE x.e e
  · exact absurd ⟨k,x,hx,by simp[badB,hk,h1]⟩ h
  · rfl
theorem putB_good {s:BookS}{a:Ad}{h:Int}(hs:GoodB s)(hc:takeC s a h=0):GoodB (putB s a h):=by
  obtain⟨c,d,f,e,b,i,j⟩:=takeC_ok hc
  refine⟨hs.keysL,hs.keysB,?_,?_,?_,?_⟩
  · intro k x hx
    simp only[putB]at hx ⊢
    split at hx
    · rename_i hk
      cases hx
      exact⟨hk,c,d,e⟩
    · exact hs.at_ k x hx
  · intro k x k' x' hx hx' hkk
    simp only[putB]at hx hx'
    split at hx<;>split at hx'
    · cases hx;cases hx';exact alike_self _
    · rename_i hk hk'
      cases hx
      exact alike_comm (twice_no b hx' (by rw[<-hkk,hk];rfl))
    · rename_i hk hk'
      cases hx'
      exact twice_no b hx (by rw[hkk,hk'];rfl)
    · exact hs.one k x k' x' hx hx' hkk
  · intro k
    simp only[putB]
    split
    · rename_i hk
      subst hk
      simp only[List.length_append,List.length_singleton]
      omega
    · exact hs.wlL k
  · have:=hs.htB
    simp only[putB]
    omega
theorem bookN_good {keys:List Nat}(h:keys.length<=12)(hb:∀k∈keys,k<18446744073709551616):GoodB (bookN keys):=
  ⟨h,hb,(fun k x hx=>by cases hx),(fun k x k' x' hx=>by cases hx),(fun k=>by simp[bookN]),by simp[bookN]⟩
theorem takeS_keys (s:BookS)(a:Ad)(h:Int):(takeS s a h).keys=s.keys:=by
  unfold takeS;split<;>rfl
def grid:List Sd:=(List.range 40).flatMap fun c:Nat=>(List.range 12).map fun f:Nat=>⟨((c:Nat):Int),((f:Nat):Int)⟩
def sdLt (a b:Sd):Prop:=a.c<b.c\/(a.c=b.c/\a.f<b.f)
theorem sdLt_irr {a:Sd}(h:sdLt a a):False:=by unfold sdLt at h;omega
theorem sdLt_asym {a b:Sd}(h:sdLt a b)(k:sdLt b a):False:=by unfold sdLt at h k;omega
theorem grid_mem {k:Sd}:k∈grid↔(0<=k.c/\k.c<=39)/\(0<=k.f/\k.f<=11):=by
  unfold grid
  simp only[List.mem_flatMap,List.mem_map,List.mem_range]
  constructor
  · rintro⟨c,hc,f,hf,rfl⟩
    simp only
    omega
  · rintro⟨b,d⟩
    exact⟨k.c.toNat,by omega,k.f.toNat,by omega,by cases k;simp only[Sd.mk.injEq];simp only at b d;omega⟩
theorem grid_pw:grid.Pairwise sdLt:=by
  unfold grid
  rw[List.pairwise_flatMap]
  refine⟨fun c hc=>?_,?_⟩
  · rw[List.pairwise_map]
    exact List.pairwise_lt_range.imp (fun{a b} h=>Or.inr ⟨rfl,by simp only;omega⟩)
  · refine List.pairwise_lt_range.imp (fun{a b} h=>fun x hx y hy=>?_)
    obtain⟨_,_,rfl⟩:=List.mem_map.1 hx
    obtain⟨_,_,rfl⟩:=List.mem_map.1 hy
    exact .inl (by simp only;omega)
def adLt (a b:Ad):Prop:=sdLt (sdOf a) (sdOf b)
def adsB (s:BookS):List Ad:=grid.filterMap s.nw
def edgesB (s:BookS):List Edge:=((adsB s).filter (fun a=> !a.gone)).map (·.e)
def IsAds (nw:Sd->Option Ad)(l:List Ad):Prop:=l.Pairwise adLt/\∀x,x∈l↔nw (sdOf x)=some x
theorem adsB_is {s:BookS}(hs:GoodB s):IsAds s.nw (adsB s):=by
  refine⟨?_,fun x=>?_⟩
  · unfold adsB
    rw[List.pairwise_filterMap]
    refine grid_pw.imp (fun{a b} h=>fun x hx y hy=>?_)
    have d:=(hs.at_ a x hx).1
    have e:=(hs.at_ b y hy).1
    unfold adLt
    rw[<-d,<-e]
    exact h
  · unfold adsB
    rw[List.mem_filterMap]
    constructor
    · rintro⟨k,hk,hx⟩
      rw[<-(hs.at_ k x hx).1]
      exact hx
    · intro hx
      have f:=(hs.at_ _ x hx).2
      have c:=edgeA_T (mayA_T f.1).1
      exact⟨sdOf x,grid_mem.2 ⟨c.2.2.2.1,c.1⟩,hx⟩
theorem pw_uniq {α:Type}{R:α->α->Prop}(hi:∀a,¬R a a)(ha:∀a b,R a b->¬R b a):∀{l m:List α},l.Pairwise R->m.Pairwise R->(∀x,x∈l↔x∈m)->l=m
  |[],[],_,_,_=>rfl
  |[],b::m,_,_,h=>by have:=(h b).2 List.mem_cons_self;cases this
  |a::l,[],_,_,h=>by have:=(h a).1 List.mem_cons_self;cases this
  |a::l,b::m,hl,hm,h=>by
    rw[List.pairwise_cons]at hl hm
    have e:a=b:=by
      rcases List.mem_cons.1 ((h a).1 List.mem_cons_self)with e|e
      · exact e
      · rcases List.mem_cons.1 ((h b).2 List.mem_cons_self)with c|c
        · exact c.symm
        · exact absurd (hm.1 a e) (ha _ _ (hl.1 b c))
    subst e
    congr 1
    refine pw_uniq hi ha hl.2 hm.2 (fun x=>?_)
    constructor
    · intro hx
      rcases List.mem_cons.1 ((h x).1 (List.mem_cons_of_mem _ hx))with e|e
      · subst e;exact absurd (hl.1 _ hx) (hi _)
      · exact e
    · intro hx
      rcases List.mem_cons.1 ((h x).2 (List.mem_cons_of_mem _ hx))with e|e
      · subst e;exact absurd (hm.1 _ hx) (hi _)
      · exact e
theorem isAds_uniq {nw:Sd->Option Ad}{l m:List Ad}(h:IsAds nw l)(k:IsAds nw m):l=m:=
  pw_uniq (R:=adLt) (fun a h=>sdLt_irr h) (fun a b h k=>sdLt_asym h k) h.1 k.1 (fun x=>(h.2 x).trans (k.2 x).symm)
theorem adsB_eq {s:BookS}(hs:GoodB s){l:List Ad}(h:IsAds s.nw l):adsB s=l:=isAds_uniq (adsB_is hs) h
theorem adsB_len (s:BookS):(adsB s).length<=480:=by
  unfold adsB
  refine Nat.le_trans (List.length_filterMap_le _ _) ?_
  simp[grid]
  decide
end Go.Bsp

namespace Go.Bsp
set_option maxRecDepth 100000
open Go.Hsp Go.Osp Go.Num Go.Gsp Go.Asp
def edge0:Edge:=⟨0,1,0,1000,⟨1,100,10,1,1000⟩⟩
end Go.Bsp

namespace Go.Bsp
open Go.Hsp Go.Osp Go.Num Go.Gsp Go.Asp
theorem b_lt (k:Nat):base k<18446744073709551616:=Nat.lt_trans (scale_lt 4 k) (by decide)
theorem first_ok {s:BookS}{a:Ad}{h:Int}(h1:mayA a.e a.no=true)(h2:a.e.f<s.keys.length)(h3:s.ht<=h/\h<=1048576):¬(mayA a.e a.no=false\/(s.keys.length:Int)<=a.e.f\/inB h s.ht 1048576=false):=by rw[h1,inB_T.2 h3];simp;omega
theorem takeC_24 {s:BookS}{a:Ad}{h:Int}(h1:mayA a.e a.no=true)(h2:a.e.f<s.keys.length)(h3:s.ht<=h/\h<=1048576)(h4:verifyA (s.keys.getD a.e.f.toNat 0) a=true)(h5:¬Twice s.nw a.e)(h6:a.no<=noOf (s.nw (sdOf a))):takeC s a h=24:=by
  unfold takeC;rw[if_neg (first_ok h1 h2 h3),if_neg (by rw[h4];simp),if_neg h5,if_pos h6]
theorem takeS_0 {s:BookS}{a:Ad}{h:Int}(hc:takeC s a h=0):takeS s a h=putB s a h:=if_pos hc
theorem takeS_no {s:BookS}{a:Ad}{h:Int}(hc:takeC s a h≠0):takeS s a h=s:=if_neg hc
theorem putB_nw (s:BookS)(a:Ad)(h:Int)(k:Sd):(putB s a h).nw k=if k=sdOf a then some a else s.nw k:=rfl
theorem putB_wl (s:BookS)(a:Ad)(h:Int)(k:Sd):(putB s a h).wl k=if k=sdOf a then lateB (s.wl k) h++[h]else s.wl k:=rfl
theorem twice_of {nw:Sd->Option Ad}{e:Edge}(h:∀k x,nw k=some x->alikeE x.e e=true):¬Twice nw e:=by
  rintro⟨k,x,hx,hb⟩
  have:=h k x hx
  simp[badB,this]at hb
def sm0:BookS:=bookN [base 5,base 6]
def sm1:BookS:=putB sm0 (signA 5 edge0 1 false) 7
def sm2:BookS:=putB sm1 (signA 5 edge0 2 true) 8
def heard (h:Int)(i:Nat):List Int:=(List.range (min i 4)).map fun j:Nat=>h+(j:Int)
end Go.Bsp

namespace Go.Bsp
open Go.Hsp Go.Osp Go.Num Go.Gsp Go.Asp
structure TI (s:BookS)(tk:List Ad):Prop where
  le:∀x∈tk,∃y,s.nw (sdOf x)=some y/\x.no<=y.no
  mem:∀k y,s.nw k=some y->y∈tk
theorem TI.nil (keys:List Nat):TI (bookN keys) []:=⟨(fun x hx=>by cases hx),(fun k y hy=>by cases hy)⟩
theorem TI.put {s:BookS}{tk:List Ad}(h:TI s tk){a:Ad}{ht:Int}(hc:takeC s a ht=0):TI (putB s a ht) (tk++[a]):=by
  obtain⟨c,d,f,i,j,b,l⟩:=takeC_ok hc
  refine⟨fun x hx=>?_,fun k y hy=>?_⟩
  · rw[putB_nw]
    by_cases e:sdOf x=sdOf a
    · rw[if_pos e]
      refine⟨a,rfl,?_⟩
      rcases List.mem_append.1 hx with hx|hx
      · obtain⟨y,hy,hle⟩:=h.le x hx
        rw[e]at hy
        rw[hy]at b
        have:noOf (some y)=y.no:=rfl
        omega
      · rw[List.mem_singleton.1 hx]
        exact Int.le_refl _
    · rw[if_neg e]
      rcases List.mem_append.1 hx with hx|hx
      · exact h.le x hx
      · exact absurd (by rw[List.mem_singleton.1 hx]) e
  · rw[putB_nw]at hy
    split at hy
    · injection hy with hy
      rw[<-hy]
      simp
    · exact List.mem_append_left _ (h.mem k y hy)
structure TopI (s:BookS)(L:List Ad):Prop where
  no:∀k y,s.nw k=some y->∃a∈L,sdOf a=k/\a.no=y.no
  all:∀a∈L,∃y,s.nw (sdOf a)=some y/\a.no<=y.no
  few:∀k,(s.wl k).length<=(L.filter fun a=>decide (sdOf a=k)).length
  ht:s.ht=0\/s.ht=50
  ed:∀k y,s.nw k=some y->∃a∈L,y=a
theorem TopI.nil (keys:List Nat):TopI (bookN keys) []:=⟨(fun k y hy=>by cases hy),(fun a ha=>by cases ha),(fun k=>Nat.le_refl _),.inl rfl,(fun k y hy=>by cases hy)⟩
theorem TopI.step {s:BookS}{L:List Ad}{a:Ad}(h:TopI s L)(hm:mayA a.e a.no=true)(hf:a.e.f<s.keys.length)(hv:verifyA (s.keys.getD a.e.f.toNat 0) a=true)(hal:∀b∈L,alikeE b.e a.e=true)(hfew:((L++[a]).filter fun b=>decide (sdOf b=sdOf a)).length<=4):
    TopI (takeS s a 50) (L++[a]):=by
  have d:s.ht<=50/\(50:Int)<=1048576:=by rcases h.ht with e|e<;>rw[e]<;>decide
  have j:¬Twice s.nw a.e:=twice_of fun k x hx=>by obtain⟨b,hb,e⟩:=h.ed k x hx;rw[e];exact hal b hb
  have mono:∀k,(L.filter fun b=>decide (sdOf b=k)).length<=((L++[a]).filter fun b=>decide (sdOf b=k)).length:=fun k=>by rw[List.filter_append,List.length_append];omega
  by_cases c:a.no<=noOf (s.nw (sdOf a))
  · have hc:=takeC_24 hm hf d hv j c
    rw[takeS_no (by rw[hc];decide)]
    refine⟨fun k y hy=>?_,fun b hb=>?_,fun k=>Nat.le_trans (h.few k) (mono k),h.ht,fun k y hy=>?_⟩
    · obtain⟨b,hb,e⟩:=h.no k y hy
      exact⟨b,List.mem_append_left _ hb,e⟩
    · rcases List.mem_append.1 hb with hb|hb
      · exact h.all b hb
      · rw[List.mem_singleton.1 hb]
        cases e:s.nw (sdOf a)with
        |none=>
          rw[e]at c
          have l:=(mayA_T hm).2.1
          have:noOf (none:Option Ad)=0:=rfl
          omega
        |some y=>
          rw[e]at c
          exact⟨y,rfl,c⟩
    · obtain⟨b,hb,e⟩:=h.ed k y hy
      exact⟨b,List.mem_append_left _ hb,e⟩
  · have hl:(lateB (s.wl (sdOf a)) 50).length<4:=by
      have l:=List.length_filter_le (fun i:Int=> !decide (i<=50-100)) (s.wl (sdOf a))
      have n:=h.few (sdOf a)
      rw[List.filter_append,List.length_append]at hfew
      have m:([a].filter fun b=>decide (sdOf b=sdOf a)).length=1:=by simp
      unfold lateB
      omega
    have hc:=takeC_0 hm hf d hv j (by omega) hl
    rw[takeS_0 hc]
    refine⟨fun k y hy=>?_,fun b hb=>?_,fun k=>?_,.inr rfl,fun k y hy=>?_⟩
    · rw[putB_nw]at hy
      split at hy
      · rename_i hk
        injection hy with hy
        exact⟨a,by simp,hk.symm,by rw[hy]⟩
      · obtain⟨b,hb,e⟩:=h.no k y hy
        exact⟨b,List.mem_append_left _ hb,e⟩
    · rw[putB_nw]
      by_cases e:sdOf b=sdOf a
      · rw[if_pos e]
        refine⟨a,rfl,?_⟩
        rcases List.mem_append.1 hb with hb|hb
        · obtain⟨y,hy,hle⟩:=h.all b hb
          rw[e]at hy
          rw[hy]at c
          have:noOf (some y)=y.no:=rfl
          omega
        · rw[List.mem_singleton.1 hb]
          exact Int.le_refl _
      · rw[if_neg e]
        rcases List.mem_append.1 hb with hb|hb
        · exact h.all b hb
        · exact absurd (by rw[List.mem_singleton.1 hb]) e
    · rw[putB_wl]
      split
      · rename_i hk
        subst hk
        have l:=List.length_filter_le (fun i:Int=> !decide (i<=50-100)) (s.wl (sdOf a))
        have n:=h.few (sdOf a)
        rw[List.filter_append,List.length_append,List.length_append]
        have m:([a].filter fun b=>decide (sdOf b=sdOf a)).length=1:=by simp
        rw[m]
        unfold lateB
        simp only[List.length_singleton]
        omega
      · exact Nat.le_trans (h.few k) (mono k)
    · rw[putB_nw]at hy
      split at hy
      · injection hy with hy
        exact⟨a,by simp,hy.symm⟩
      · obtain⟨b,hb,e⟩:=h.ed k y hy
        exact⟨b,List.mem_append_left _ hb,e⟩
end Go.Bsp

namespace Go.Bsp
open Go.Hsp Go.Osp Go.Num Go.Gsp Go.Asp
def EdR (a b:Edge):Prop:=(a.c<b.c\/(a.c=b.c/\a.f<b.f))/\(a.c=b.c->alikeE a b=true)
theorem edges_pw {s:BookS}(hs:GoodB s):(edgesB s).Pairwise EdR:=by
  unfold edgesB
  rw[List.pairwise_map]
  have h:=adsB_is hs
  refine List.Pairwise.imp_of_mem (fun{a b} ha hb hab=>?_) (List.Pairwise.filter _ h.1)
  have c:=(h.2 a).1 (List.mem_filter.1 ha).1
  have d:=(h.2 b).1 (List.mem_filter.1 hb).1
  exact⟨hab,fun hc=>hs.one _ _ _ _ c d hc⟩
theorem edges_edgeA {s:BookS}(hs:GoodB s){e:Edge}(he:e∈edgesB s):edgeA e=true:=by
  unfold edgesB at he
  obtain⟨a,ha,rfl⟩:=List.mem_map.1 he
  have b:=((adsB_is hs).2 a).1 (List.mem_filter.1 ha).1
  exact(mayA_T (hs.at_ _ _ b).2.1).1
theorem edgeA_ok {e:Edge}(h:edgeA e=true):edgeOk e=true/\polOk e.pol=true:=by
  have q:=edgeA_T h
  simp only[edgeOk,polOk,inB,Bool.and_eq_true,decide_eq_true_eq]
  omega
theorem alike_T {a b:Edge}(h:alikeE a b=true):a.r=b.r/\((a.f=b.f/\a.t=b.t)\/(a.f=b.t/\a.t=b.f)):=by
  simpa[alikeE]using h
theorem edges_right {s:BookS}(hs:GoodB s):rightG (edgesB s)=true:=by
  have hp:=List.pairwise_iff_getElem.1 (edges_pw hs)
  have hr:∀i j,i<j->j<(edgesB s).length->EdR ((edgesB s).getD i noEdge) ((edgesB s).getD j noEdge):=by
    intro i j hij hj
    have:=hp i j (by omega) hj hij
    simpa[List.getD,hj,show i<(edgesB s).length by omega]using this
  have hm:∀i,i<(edgesB s).length->edgeA ((edgesB s).getD i noEdge)=true:=by
    intro i hi
    refine edges_edgeA hs ?_
    simp[List.getD,hi]
  generalize edgesB s=l at hr hm
  refine decide_eq_true (fun i hi=>⟨(edgeA_ok (hm i hi)).1,fun c=>?_,fun⟨c,hc⟩=>?_⟩)
  · have h:=(hr (i-1) i (by omega) hi).1
    generalize l.getD (i-1) noEdge=a at h
    generalize l.getD i noEdge=b at h
    simp only[ordE,cmpI]
    repeat' split
    all_goals omega
  · have h:=hr (i-1) i (by omega) hi
    have d:=alike_T (h.2 hc)
    have e:=h.1
    refine⟨fun⟨k1,k2⟩=>?_,?_⟩
    · have g:=hr (i-2) (i-1) (by omega) (by omega)
      have f:=alike_T (g.2 (k2.trans hc.symm))
      have k:=g.1
      have m:=(hr (i-2) i (by omega) hi).1
      clear h g hr hm
      omega
    · clear h hr hm
      omega
theorem edges_len (s:BookS):(edgesB s).length<=480:=by
  unfold edgesB
  rw[List.length_map]
  exact Nat.le_trans (List.length_filter_le _ _) (adsB_len s)
end Go.Bsp

