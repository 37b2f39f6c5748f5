/- SplitFits: for every input the law answers true and leaves its arguments as they were. -/

set_option linter.unusedVariables false
set_option linter.unusedSimpArgs false
namespace Go.Num
def pm (m:Nat):Nat->Nat->Nat->Nat->Nat
  |0,_,_,out=>out
  |f+1,a,n,out=>pm m f (a*a%m) (n/2) (if n%2=1 then out*a%m else out)
theorem pm_eq (m:Nat):∀(f a n out:Nat),n<2^f->out<m->pm m f a n out=out*a^n%m
  |0,a,n,out,h,ho=>by
    have:n=0:=by simpa using h
    subst this
    simp[pm,Nat.mod_eq_of_lt ho]
  |f+1,a,n,out,h,ho=>by
    have hm:0<m:=by omega
    have hn:n/2<2^f:=by rw[Nat.pow_succ]at h;omega
    rw[pm]
    by_cases hp:n%2=1
    · rw[if_pos hp,pm_eq m f _ _ _ hn (Nat.mod_lt _ hm)]
      have e:a^n=a*(a*a)^(n/2):=by
        have b:n=2*(n/2)+1:=by omega
        conv=>lhs;rw[b]
        rw[Nat.pow_succ,Nat.pow_mul,Nat.pow_two,Nat.mul_comm]
      rw[e,Nat.mul_mod,Nat.mod_mod,<-Nat.pow_mod,<-Nat.mul_mod,Nat.mul_assoc]
    · rw[if_neg hp,pm_eq m f _ _ _ hn ho]
      have e:a^n=(a*a)^(n/2):=by
        have b:n=2*(n/2):=by omega
        conv=>lhs;rw[b]
        rw[Nat.pow_mul,Nat.pow_two]
      rw[e,Nat.mul_mod,<-Nat.pow_mod,<-Nat.mul_mod]
theorem least {p:Nat->Prop}[DecidablePred p](n:Nat)(h:p n):∃k,k<=n/\p k/\∀j,j<k->¬p j:=by
  induction n using Nat.strongRecOn with
  |ind n ih=>
    by_cases hs:∃j,j<n/\p j
    · obtain⟨j,hj,hp⟩:=hs
      obtain⟨k,d,b,c⟩:=ih j hj hp
      exact⟨k,by omega,b,c⟩
    · exact⟨n,Nat.le_refl _,h,fun j hj hp=>hs ⟨j,hj,hp⟩⟩
end Go.Num

namespace Go.Num
def q:Nat:=2305843009213688669
def M:Nat:=4611686018427377339
theorem q_pos:0<q:=by decide
theorem M_one:1<M:=by decide
def pw (a n:Nat):Nat:=pm M 64 a n 1
theorem pw_eq (a n:Nat)(h:n<18446744073709551616):pw a n=a^n%M:=by
  have b:n<2^64:=by rw[show(2:Nat)^64=18446744073709551616 by decide];exact h
  rw[pw,pm_eq M 64 a n 1 b M_one,Nat.one_mul]
theorem step1 (a n out:Nat)(h:n%2=1):(out*a%M)*(a*a%M)^(n/2)%M=out*a^n%M:=by
  have e:a^n=a*(a*a)^(n/2):=by
    have b:n=2*(n/2)+1:=by omega
    conv=>lhs;rw[b]
    rw[Nat.pow_succ,Nat.pow_mul,Nat.pow_two,Nat.mul_comm]
  rw[e,Nat.mul_mod,Nat.mod_mod,<-Nat.pow_mod,<-Nat.mul_mod,Nat.mul_assoc]
theorem step0 (a n out:Nat)(h:¬n%2=1):out*(a*a%M)^(n/2)%M=out*a^n%M:=by
  have e:a^n=(a*a)^(n/2):=by
    have b:n=2*(n/2):=by omega
    conv=>lhs;rw[b]
    rw[Nat.pow_mul,Nat.pow_two]
  rw[e,Nat.mul_mod,<-Nat.pow_mod,<-Nat.mul_mod]
theorem pw_start (a n:Nat)(h:n<18446744073709551616):1*a^n%M=pw a n:=by rw[pw_eq a n h,Nat.one_mul]
theorem pw_end (a out:Nat)(h:out<M):out*a^0%M=out:=by rw[Nat.pow_zero,Nat.mul_one,Nat.mod_eq_of_lt h]
theorem q_lt:q<18446744073709551616:=by decide
def right (p:Nat):Bool:=decide (0<p)&&decide (p<M)&&decide (pw p q=1)
theorem right_iff (p:Nat):right p=true↔0<p/\p<M/\p^q%M=1:=by
  unfold right
  rw[pw_eq p q q_lt]
  simp[and_assoc]
def taken (p:Nat):Nat:=if right p then p else 1
def scale (p k:Nat):Nat:=pw (taken p) (k%q)
def base (k:Nat):Nat:=scale 4 k
def mulS (a b:Nat):Nat:=(a%q)*(b%q)%q
def addS (a b:Nat):Nat:=(a%q+b%q)%q
def negS (a:Nat):Nat:=(q-a%q)%q
def addP (a b:Nat):Nat:=taken a*taken b%M
theorem right_one:right 1=true:=by decide+kernel
theorem right_taken (p:Nat):right (taken p)=true:=by
  unfold taken
  split
  · assumption
  · exact right_one
theorem pow_q {p:Nat}(h:right p=true):p^q%M=1:=((right_iff p).1 h).2.2
theorem pow_mod_q {p:Nat}(h:right p=true)(k:Nat):p^(k%q)%M=p^k%M:=by
  have e:k=q*(k/q)+k%q:=(Nat.div_add_mod k q).symm
  conv=>rhs;rw[e]
  rw[Nat.pow_add,Nat.pow_mul,Nat.mul_mod,Nat.pow_mod (p^q),pow_q h,Nat.one_pow,Nat.mod_eq_of_lt M_one,Nat.one_mul,Nat.mod_mod]
theorem right_pow {p:Nat}(h:right p=true)(k:Nat):right (p^k%M)=true:=by
  rw[right_iff]
  have b:(p^k%M)^q%M=1:=by
    rw[<-Nat.pow_mod,<-Nat.pow_mul,Nat.mul_comm,Nat.pow_mul,Nat.pow_mod,pow_q h,Nat.one_pow,Nat.mod_eq_of_lt M_one]
  refine⟨?_,Nat.mod_lt _ (by decide),b⟩
  rcases Nat.eq_zero_or_pos (p^k%M)with c|c
  · rw[c,Nat.zero_pow q_pos]at b
    simp at b
  · exact c
theorem mod_q_lt (k:Nat):k%q<18446744073709551616:=Nat.lt_trans (Nat.mod_lt _ q_pos) q_lt
theorem scale_eq (p k:Nat):scale p k=taken p^k%M:=by
  rw[scale,pw_eq _ _ (mod_q_lt k),pow_mod_q (right_taken p)]
theorem right_scale (p k:Nat):right (scale p k)=true:=by rw[scale_eq];exact right_pow (right_taken p) k
theorem right_base (k:Nat):right (base k)=true:=right_scale 4 k
def fromTo (n:Nat):List (BitVec 8)->Nat
  |[]=>n
  |b::l=>fromTo ((256*n+b.toNat)%(q-1)) l
def fromB (l:List (BitVec 8)):Nat:=fromTo 0 l+1
theorem fromTo_lt:∀(l:List (BitVec 8)) (n:Nat),n<q-1->fromTo n l<q-1
  |[],_,h=>h
  |_::l,_,_=>fromTo_lt l _ (Nat.mod_lt _ (by decide))
theorem fromB_lt (l:List (BitVec 8)):fromB l<q:=by
  have:=fromTo_lt l 0 (by decide)
  have:=q_pos
  unfold fromB;omega
theorem fromTo_snoc (l:List (BitVec 8))(k n:Nat)(b:BitVec 8)(h:l[k]? =some b):fromTo n (l.take (k+1))=(256*fromTo n (l.take k)+b.toNat)%(q-1):=by
  have ap:∀(l m:List (BitVec 8)) (n:Nat),fromTo n (l++m)=fromTo (fromTo n l) m:=by
    intro l
    induction l with
    |nil=>intro m n;rfl
    |cons c l ih=>intro m n;exact ih m _
  rw[List.take_add_one,h,ap]
  rfl
end Go.Num

namespace Go.Hsp
abbrev Byte:=BitVec 8
abbrev Word:=BitVec 32
def be8 (m:Nat):List Byte:=[56,48,40,32,24,16,8,0].map fun k=>BitVec.ofNat 8 (m>>>k)
def be8To (m k:Nat):List Byte:=(be8 m).take k
theorem be8_length (m:Nat):(be8 m).length=8:=rfl
theorem be8To_succ (m k:Nat)(h:k<8):be8To m (k+1)=be8To m k++[BitVec.ofNat 8 (m>>>(56-8*k))]:=by
  have:k=0\/k=1\/k=2\/k=3\/k=4\/k=5\/k=6\/k=7:=by omega
  rcases this with rfl|rfl|rfl|rfl|rfl|rfl|rfl|rfl<;>rfl
def rot (x:Word)(k:Nat):Word:=x<<<(32-k)|||x>>>k
def be32 (b:List Byte):Word:=(b.getD 0 0).setWidth 32<<<24|||(b.getD 1 0).setWidth 32<<<16|||(b.getD 2 0).setWidth 32<<<8|||(b.getD 3 0).setWidth 32
def nextWord (w:List Word)(k:Nat):Word:=
  w.getD (k-16) 0+(rot (w.getD (k-15) 0) 7^^^rot (w.getD (k-15) 0) 18^^^(w.getD (k-15) 0)>>>3)+w.getD (k-7) 0
    +(rot (w.getD (k-2) 0) 17^^^rot (w.getD (k-2) 0) 19^^^(w.getD (k-2) 0)>>>10)
def schedTo (b:List Byte):Nat->List Word
  |0=>[]
  |k+1=>schedTo b k++[if k<16 then be32 (b.drop (4*k))else nextWord (schedTo b k) k]
theorem schedTo_length (b:List Byte):∀k,(schedTo b k).length=k
  |0=>rfl
  |k+1=>by simp[schedTo,schedTo_length b k]
def sched (b:List Byte):List Word:=schedTo b 64
def table:List Word:=[
  0x428a2f98,0x71374491,0xb5c0fbcf,0xe9b5dba5,0x3956c25b,0x59f111f1,0x923f82a4,0xab1c5ed5,
  0xd807aa98,0x12835b01,0x243185be,0x550c7dc3,0x72be5d74,0x80deb1fe,0x9bdc06a7,0xc19bf174,
  0xe49b69c1,0xefbe4786,0x0fc19dc6,0x240ca1cc,0x2de92c6f,0x4a7484aa,0x5cb0a9dc,0x76f988da,
  0x983e5152,0xa831c66d,0xb00327c8,0xbf597fc7,0xc6e00bf3,0xd5a79147,0x06ca6351,0x14292967,
  0x27b70a85,0x2e1b2138,0x4d2c6dfc,0x53380d13,0x650a7354,0x766a0abb,0x81c2c92e,0x92722c85,
  0xa2bfe8a1,0xa81a664b,0xc24b8b70,0xc76c51a3,0xd192e819,0xd6990624,0xf40e3585,0x106aa070,
  0x19a4c116,0x1e376c08,0x2748774c,0x34b0bcb5,0x391c0cb3,0x4ed8aa4a,0x5b9cca4f,0x682e6ff3,
  0x748f82ee,0x78a5636f,0x84c87814,0x8cc70208,0x90befffa,0xa4506ceb,0xbef9a3f7,0xc67178f2]
def first:List Word:=[0x6a09e667,0xbb67ae85,0x3c6ef372,0xa54ff53a,0x510e527f,0x9b05688c,0x1f83d9ab,0x5be0cd19]
def stepW (v:List Word)(k w:Word):List Word:=
  let s:=rot (v.getD 4 0) 6^^^rot (v.getD 4 0) 11^^^rot (v.getD 4 0) 25
  let t:=v.getD 7 0+s+(v.getD 6 0^^^v.getD 4 0&&&(v.getD 5 0^^^v.getD 6 0))+k+w
  let r:=rot (v.getD 0 0) 2^^^rot (v.getD 0 0) 13^^^rot (v.getD 0 0) 22
  let most:=v.getD 0 0&&&v.getD 1 0|||v.getD 2 0&&&(v.getD 0 0|||v.getD 1 0)
  [t+r+most,v.getD 0 0,v.getD 1 0,v.getD 2 0,v.getD 3 0+t,v.getD 4 0,v.getD 5 0,v.getD 6 0]
def roundsTo (h:List Word)(ws:List Word):Nat->List Word
  |0=>h
  |i+1=>stepW (roundsTo h ws i) (table.getD i 0) (ws.getD i 0)
theorem roundsTo_length (h ws:List Word)(hh:h.length=8):∀i,(roundsTo h ws i).length=8
  |0=>hh
  |i+1=>by simp[roundsTo,stepW]
def addTo (v h:List Word)(i:Nat):List Word:=(List.range 8).map fun j=>if j<i then v.getD j 0+h.getD j 0 else v.getD j 0
theorem addTo_length (v h:List Word)(i:Nat):(addTo v h i).length=8:=by simp[addTo]
theorem addTo_zero (v h:List Word)(hv:v.length=8):addTo v h 0=v:=by
  apply List.ext_getElem (by simp[addTo,hv])
  intro j c b
  simp[addTo,List.getD,b]
theorem addTo_getElem (v h:List Word)(i j:Nat)(hj:j<8):(addTo v h i)[j]? =some (if j<i then v.getD j 0+h.getD j 0 else v.getD j 0):=by simp[addTo,hj]
theorem addTo_at (v h:List Word)(i j:Nat)(hj:j<8):(addTo v h i).getD j 0=if j<i then v.getD j 0+h.getD j 0 else v.getD j 0:=by
  rw[List.getD_eq_getElem?_getD,addTo_getElem v h i j hj];rfl
theorem addTo_succ (v h:List Word)(i:Nat)(hi:i<8):(addTo v h i).set i (v.getD i 0+h.getD i 0)=addTo v h (i+1):=by
  apply List.ext_getElem?
  intro j
  by_cases hj:j<8
  · rw[addTo_getElem v h (i+1) j hj,List.getElem?_set]
    split
    · subst_vars;simp[addTo_length,hi]
    · rename_i hne
      rw[addTo_getElem v h i j hj]
      by_cases b:j<i
      · rw[if_pos b,if_pos (by omega)]
      · rw[if_neg b,if_neg (by omega)]
  · rw[List.getElem?_eq_none (by simp[addTo_length];omega),List.getElem?_eq_none (by simp[addTo_length];omega)]
def mix (h:List Word)(b:List Byte):List Word:=addTo (roundsTo h (sched b) 64) h 8
theorem mix_length (h:List Word)(b:List Byte):(mix h b).length=8:=addTo_length _ _ _
def mixN (h:List Word)(b:List Byte):Nat->List Word
  |0=>h
  |n+1=>mixN (mix h (b.take 64)) (b.drop 64) n
def mixAll (h:List Word)(b:List Byte):List Word:=mixN h b (b.length/64)
theorem mixAll_step (h:List Word)(b:List Byte)(hb:64<=b.length):mixAll h b=mixAll (mix h (b.take 64)) (b.drop 64):=by
  unfold mixAll
  rw[List.length_drop,show b.length/64=(b.length-64)/64+1 by omega]
  rfl
theorem mixAll_end (h:List Word)(b:List Byte)(hb:b.length<64):mixAll h b=h:=by
  unfold mixAll
  rw[Nat.div_eq_of_lt hb]
  rfl
def noughts (n:Nat):Nat:=(64+55-n%64)%64
def tail (b:List Byte):List Byte:=b.drop (b.length-b.length%64)++[128]++List.replicate (noughts b.length) 0++be8 (8*b.length)
def digest (h:List Word):List Byte:=(List.range 32).map fun k=>((h.getD (k/4) 0)>>>(24-8*(k%4))).setWidth 8
def digestTo (h:List Word)(k:Nat):List Byte:=(digest h).take k++List.replicate (32-k) 0
theorem digest_length (h:List Word):(digest h).length=32:=by simp[digest]
theorem digestTo_length (h:List Word)(k:Nat)(hk:k<=32):(digestTo h k).length=32:=by simp[digestTo,digest_length];omega
theorem digestTo_succ (h:List Word)(k:Nat)(hk:k<32):(digestTo h k).set k (((h.getD (k/4) 0)>>>(24-8*(k%4))).setWidth 8)=digestTo h (k+1):=by
  have e:(digest h)[k]? =some (((h.getD (k/4) 0)>>>(24-8*(k%4))).setWidth 8):=by simp[digest,hk]
  unfold digestTo
  have hl:((digest h).take k).length=k:=by simp[digest_length];omega
  rw[List.set_append,if_neg (by rw[hl];omega),hl,Nat.sub_self,show(32-k)=(32-(k+1))+1 by omega,List.replicate_succ,List.set_cons_zero,List.take_add_one,e]
  simp
def sum (b:List Byte):List Byte:=digest (mixAll (mixAll first b) (tail b))
theorem sum_length (b:List Byte):(sum b).length=32:=digest_length _
theorem tail_length (b:List Byte):(tail b).length%64=0:=by
  simp only[tail,List.length_append,List.length_drop,List.length_replicate,be8_length,List.length_singleton,noughts]
  omega
def tagBytes (name:List Byte):List (List Byte)->List Byte
  |parts=>be8 name.length++name++(parts.map fun p=>be8 p.length++p).flatten
def tagTo (name:List Byte)(parts:List (List Byte))(k:Nat):List Byte:=be8 name.length++name++((parts.take k).map fun p=>be8 p.length++p).flatten
theorem tagTo_zero (name:List Byte)(parts:List (List Byte)):tagTo name parts 0=be8 name.length++name:=by simp[tagTo]
theorem tagTo_succ (name:List Byte)(parts:List (List Byte))(k:Nat)(q:List Byte)(h:parts[k]? =some q):tagTo name parts (k+1)=tagTo name parts k++be8 q.length++q:=by
  simp[tagTo,List.take_add_one,h]
theorem tagTo_all (name:List Byte)(parts:List (List Byte))(k:Nat)(h:parts.length<=k):tagTo name parts k=tagBytes name parts:=by
  simp[tagTo,tagBytes,List.take_of_length_le h]
theorem tagTo_le (name:List Byte)(parts:List (List Byte))(k:Nat):(tagTo name parts k).length<=(tagBytes name parts).length:=by
  have e:tagBytes name parts=tagTo name parts k++((parts.drop k).map fun p=>be8 p.length++p).flatten:=by
    unfold tagTo tagBytes
    rw[List.append_assoc (be8 name.length++name),<-List.flatten_append,<-List.map_append,List.take_append_drop]
  rw[e,List.length_append]
  exact Nat.le_add_right _ _
theorem flat_parts:∀(parts:List (List Byte)),8*parts.length<=((parts.map fun p=>be8 p.length++p).flatten).length
  |[]=>by simp
  |p::ps=>by
    have:=flat_parts ps
    simp only[List.map_cons,List.flatten_cons,List.length_append,be8_length,List.length_cons]
    omega
theorem tagBytes_parts (name:List Byte)(parts:List (List Byte)):8*parts.length<=(tagBytes name parts).length:=by
  have:=flat_parts parts
  unfold tagBytes
  rw[List.length_append]
  omega
def tag (name:List Byte)(parts:List (List Byte)):List Byte:=sum (tagBytes name parts)
theorem tag_length (name:List Byte)(parts:List (List Byte)):(tag name parts).length=32:=sum_length _
end Go.Hsp

namespace Go.Hsp
def nStream:List Byte:=[115,116,114,101,97,109]
def streamTo (key:List Byte)(j:Nat):List Byte:=((List.range j).map fun i=>tag nStream [key,be8 i]).flatten
def stream (key:List Byte)(n:Nat):List Byte:=(streamTo key ((n+31)/32)).take n
def xorB (a b:List Byte):List Byte:=List.zipWith (· ^^^ ·) a b
def overB (key b:List Byte):List Byte:=xorB (stream key b.length) b
def inner (key s:List Byte):List Byte:=overB key (s.take (s.length-8))
end Go.Hsp

namespace Go.Osp
open Go.Hsp Go.Num
abbrev Hop:=Int×Int×Int×Int×Nat×Nat
abbrev Stop:=Nat×List Byte
def nShared:List Byte:=[115,104,97,114,101,100]
def nBlind:List Byte:=[98,108,105,110,100]
def nRho:List Byte:=[114,104,111]
def nMac:List Byte:=[109,97,99]
def nOnion:List Byte:=[111,110,105,111,110]
def nPad:List Byte:=[112,97,100]
def usg (i:Int):Nat:=(i%18446744073709551616).toNat
def layB (h:Hop):List Byte:=be8 (usg h.1)++be8 (usg h.2.1)++be8 (usg h.2.2.1)++be8 (usg h.2.2.2.1)++be8 h.2.2.2.2.1++be8 h.2.2.2.2.2
def sharedB (p:Nat):List Byte:=tag nShared [be8 p]
def blindB (s:Stop):Nat:=fromB (tag nBlind [be8 s.1,s.2])
def rho (s:Stop)(n:Nat):List Byte:=stream (tag nRho [s.2]) n
def macB (s:Stop)(b:List Byte):List Byte:=tag nMac [s.2,b]
def startX (seed:List Byte):Nat:=fromB (tag nOnion [seed])
def padO (seed:List Byte):List Byte:=stream (tag nPad [seed]) 640
def stopB (x k:Nat):Stop:=(base x,sharedB (scale k x))
def nextX (x k:Nat):Nat:=mulS x (blindB (stopB x k))
def wayB:Nat->List Nat->List Stop
  |_,[]=>[]
  |x,k::ks=>stopB x k::wayB (nextX x k) ks
def zeros (n:Nat):List Byte:=List.replicate n 0
def fillS (f:List Byte)(s:Stop):List Byte:=xorB (f++zeros 80) ((rho s 720).drop (720-(f.length+80)))
def fillTo:List Byte->List Stop->List Byte
  |f,[]=>f
  |f,s::l=>fillTo (fillS f s) l
def filler (l:List Stop):List Byte:=fillTo [] (l.take (l.length-1))
def put (r f:List Byte):List Byte:=r.take (r.length-f.length)++f
def layer (s:Stop)(h:Hop)(m r:List Byte):List Byte:=xorB (layB h++m++r.take 560) (rho s 640)
def wrapR (pad:List Byte):List Byte->List Stop->List Hop->List Byte×List Byte
  |f,[s],h::_=>(put (layer s h (zeros 32) pad) f,macB s (put (layer s h (zeros 32) pad) f))
  |f,s::l,h::hs=>(layer s h (wrapR pad (fillS f s) l hs).2 (wrapR pad (fillS f s) l hs).1,macB s (layer s h (wrapR pad (fillS f s) l hs).2 (wrapR pad (fillS f s) l hs).1))
  |_,_,_=>(pad,zeros 32)
def opened (s:Stop)(r:List Byte):List Byte:=xorB (r++zeros 80) (rho s 720)
def packetB (e:Nat)(rm:List Byte×List Byte):List Byte:=be8 e++rm.1++rm.2
def noHop:Hop:=(0,0,0,0,0,0)
theorem M_lt:M<18446744073709551616:=by decide
end Go.Osp

namespace Go.Osp
open Go.Hsp Go.Num
def stepR (l:List Stop)(hs:List Hop)(st:List Byte×List Byte)(k:Nat):List Byte×List Byte:=
  ((if k+1=l.length then put (layer (l.getD k (0,[])) (hs.getD k noHop) st.2 st.1) (filler l)else layer (l.getD k (0,[])) (hs.getD k noHop) st.2 st.1),
   macB (l.getD k (0,[])) (if k+1=l.length then put (layer (l.getD k (0,[])) (hs.getD k noHop) st.2 st.1) (filler l)else layer (l.getD k (0,[])) (hs.getD k noHop) st.2 st.1))
end Go.Osp

namespace Go.Osp
open Go.Hsp Go.Num
def xAt':Nat->List Nat->Nat
  |x,[]=>x
  |x,k::ks=>xAt' (nextX x k) ks
def pkt (pts:List Nat)(hs:List Hop)(seed:List Byte)(i:Nat):List Byte:=
  if i<pts.length then packetB (base (xAt' (startX seed) (pts.take i))) (wrapR (padO seed) (fillTo [] ((wayB (startX seed) pts).take i)) (wayB (xAt' (startX seed) (pts.take i)) (pts.drop i)) (hs.drop i))else[]
theorem base_lt (k:Nat):base k<18446744073709551616:=Nat.lt_trans ((right_iff _).1 (right_base k)).2.1 M_lt
end Go.Osp
namespace Go.Hsp
end Go.Hsp

namespace Go.Osp
open Go.Hsp Go.Num
def sumS (l:List Nat):Nat:=l.foldl addS 0
theorem addS_lt (a b:Nat):addS a b<q:=Nat.mod_lt _ q_pos
theorem sumS_snoc (l:List Nat)(k x:Nat)(h:l[k]? =some x):sumS (l.take (k+1))=addS (sumS (l.take k)) x:=by
  rw[List.take_add_one,h];simp[sumS]
def fromP (p:Nat):List Nat->List Nat
  |[]=>[p]
  |b::l=>addP ((fromP p l).headD 0) (base b)::fromP p l
theorem fromP_length (p:Nat):∀l,(fromP p l).length=l.length+1
  |[]=>rfl
  |b::l=>by rw[fromP,List.length_cons,fromP_length p l,List.length_cons]
theorem headD_getD {l:List Nat}:l.headD 0=l.getD 0 0:=by cases l<;>rfl
def blindsP (seed:List Byte)(n:Nat):List Nat:=(List.range n).map fun i=>fromB (tag nBlind [seed,[BitVec.ofNat 8 i]])
theorem blindsP_length (seed:List Byte)(n:Nat):(blindsP seed n).length=n:=by simp[blindsP]
theorem blindsP_succ (seed:List Byte)(n:Nat):blindsP seed (n+1)=blindsP seed n++[fromB (tag nBlind [seed,[BitVec.ofNat 8 n]])]:=by simp[blindsP,List.range_succ]
theorem fill_back (p:Nat)(l:List Nat)(k:Nat)(hk:k<l.length):
    (List.replicate (l.length-k) 0++fromP p (l.drop (l.length-k))).set (l.length-1-k) (addP ((List.replicate (l.length-k) 0++fromP p (l.drop (l.length-k))).getD (l.length-1-k+1) 0) (base (l.getD (l.length-1-k) 0)))=
      List.replicate (l.length-(k+1)) 0++fromP p (l.drop (l.length-(k+1))):=by
  have b:l.length-k=(l.length-(k+1))+1:=by omega
  have c:l.length-1-k=l.length-(k+1):=by omega
  have d:l.drop (l.length-(k+1))=l.getD (l.length-(k+1)) 0::l.drop (l.length-k):=by
    rw[List.drop_eq_getElem_cons (by omega),b]
    congr 1
    simp[List.getD,show l.length-(k+1)<l.length by omega]
  rw[d,fromP,headD_getD,c]
  generalize fromP p (l.drop (l.length-k))=r
  rw[b,List.replicate_succ',List.append_assoc]
  have hr:(List.replicate (l.length-(k+1)) 0++([0]++r)).getD (l.length-(k+1)+1) 0=r.getD 0 0:=by
    rw[List.getD_eq_getElem?_getD,List.getElem?_append_right (by simp)]
    simp[List.getD]
  rw[hr,List.set_append_right _ _ (by simp)]
  simp
theorem getD_lt {l:List Nat}{b:Nat}(h:∀x∈l,x<b)(hb:0<b)(i:Nat):l.getD i 0<b:=by
  rw[List.getD_eq_getElem?_getD]
  cases e:l[i]? with
  |none=>exact hb
  |some x=>exact h x (List.mem_of_getElem? e)
end Go.Osp

namespace Go.Gsp
open Go.Osp
structure Pol where
  b : Int
  p : Int
  d : Int
  l : Int
  m : Int
deriving DecidableEq
structure Edge where
  f : Int
  t : Int
  c : Int
  r : Int
  pol : Pol
deriving DecidableEq
def noPol:Pol:=⟨0,0,0,0,0⟩
def noEdge:Edge:=⟨0,0,0,0,noPol⟩
def inB (n lo hi:Int):Bool:=decide (lo<=n/\n<=hi)
def polOk (p:Pol):Bool:=inB p.b 0 1125899906842624&&inB p.l 0 p.m&&inB p.m 0 1125899906842624&&inB p.p 0 1000000&&inB p.d 0 1048576
def edgeOk (e:Edge):Bool:=inB e.f 0 11&&inB e.t 0 11&&decide (e.f≠e.t)&&inB e.c 0 39&&inB e.r 1 1125899906842624&&polOk e.pol
def coinB (a:Int):Bool:=inB a 0 1125899906842624
def addC (a b:Int):Int×Bool:=if coinB a&&coinB b&&decide (a<=1125899906842624-b)then(a+b,true)else(0,false)
def partC (a num:Int):Int×Bool:=if coinB a&&decide (0<=num)&&decide (a*num/1000000<=1125899906842624)then(a*num/1000000,true)else(0,false)
def feeG (p:Pol)(a:Int):Int×Bool:=if(partC a p.p).2&&polOk p then addC p.b (partC a p.p).1 else(0,false)
def cmpI (a b:Int):Int:=if a<b then-1 else if b<a then 1 else 0
def ordE (a b:Edge):Int:=if cmpI a.c b.c≠0 then cmpI a.c b.c else cmpI a.f b.f
def RightAt (l:List Edge)(i:Nat):Prop:=
  edgeOk (l.getD i noEdge)=true/\(0<i->ordE (l.getD (i-1) noEdge) (l.getD i noEdge)<0)/\
    ((0<i/\(l.getD (i-1) noEdge).c=(l.getD i noEdge).c)->¬(1<i/\(l.getD (i-2) noEdge).c=(l.getD i noEdge).c)/\(l.getD (i-1) noEdge).f=(l.getD i noEdge).t/\(l.getD (i-1) noEdge).t=(l.getD i noEdge).f/\(l.getD (i-1) noEdge).r=(l.getD i noEdge).r)
instance (l : List Edge) (i : Nat) : Decidable (RightAt l i) := by unfold RightAt; infer_instance
def RightP (l:List Edge):Prop:=∀i,i<l.length->RightAt l i
instance (l : List Edge) : Decidable (RightP l) := by unfold RightP; infer_instance
def rightG (l:List Edge):Bool:=decide (RightP l)
def WayAt (l:List Edge)(i:Nat):Prop:=edgeOk (l.getD i noEdge)=true/\(0<i->(l.getD (i-1) noEdge).t=(l.getD i noEdge).f)/\∀k,k<=i->(l.getD k noEdge).f≠(l.getD i noEdge).t
instance (l : List Edge) (i : Nat) : Decidable (WayAt l i) := by unfold WayAt; infer_instance
def WayP (l:List Edge):Prop:=(1<=l.length/\l.length<=8)/\∀i,i<l.length->WayAt l i
instance (l : List Edge) : Decidable (WayP l) := by unfold WayP; infer_instance
def wayG (l:List Edge):Bool:=decide (WayP l)
def nextC (e:Edge)(a x:Int):Option (Int×Int):=if(feeG e.pol a).2&&(addC a (feeG e.pol a).1).2 then some (a+(feeG e.pol a).1,x+e.pol.d)else none
def costF (a x:Int):List Edge->Except Int (Option (Int×Int)×List (Int×Int))
  |[]=> .ok (some (a,x),[])
  |e::t=>match costF a x t with
    | .error er=> .error er
    | .ok (none,_)=> .error 6
    | .ok (some (a1,x1),l)=>if inB a1 e.pol.l (min e.pol.m e.r)=false then .error 6 else if 1048576<x1 then .error 16 else .ok (nextC e a1 x1,(a1,x1)::l)
def costG (w:List Edge)(a x:Int):List Int×List Int×Int:=
  if wayG w=false then([],[],19)else if inB a 1 1125899906842624=false\/inB x 1 1048576=false then([],[],1)
  else match costF a x w with
    | .error er=>([],[],er)
    | .ok (_,l)=>(l.map Prod.fst,l.map Prod.snd,0)
theorem inB_T {n lo hi:Int}(h:inB n lo hi=true):lo<=n/\n<=hi:=of_decide_eq_true h
theorem inB_F {n lo hi:Int}(h:inB n lo hi=false):¬(lo<=n/\n<=hi):=of_decide_eq_false h
theorem polOk_T {p:Pol}(h:polOk p=true):(0<=p.b/\p.b<=1125899906842624)/\(0<=p.l/\p.l<=p.m)/\(0<=p.m/\p.m<=1125899906842624)/\(0<=p.p/\p.p<=1000000)/\0<=p.d/\p.d<=1048576:=by
  simp only[polOk,Bool.and_eq_true]at h
  exact⟨inB_T h.1.1.1.1,inB_T h.1.1.1.2,inB_T h.1.1.2,inB_T h.1.2,inB_T h.2⟩
theorem edgeOk_T {e:Edge}(h:edgeOk e=true):(0<=e.f/\e.f<=11)/\(0<=e.t/\e.t<=11)/\e.f≠e.t/\(0<=e.c/\e.c<=39)/\(1<=e.r/\e.r<=1125899906842624)/\polOk e.pol=true:=by
  simp only[edgeOk,Bool.and_eq_true,decide_eq_true_eq]at h
  exact⟨inB_T h.1.1.1.1.1,inB_T h.1.1.1.1.2,h.1.1.1.2,inB_T h.1.1.2,inB_T h.1.2,h.2⟩
def PolI (p:Pol):Prop:=(-9223372036854775808<=p.b/\p.b<=9223372036854775807)/\(-9223372036854775808<=p.p/\p.p<=9223372036854775807)/\(-9223372036854775808<=p.d/\p.d<=9223372036854775807)/\(-9223372036854775808<=p.l/\p.l<=9223372036854775807)/\(-9223372036854775808<=p.m/\p.m<=9223372036854775807)
def EdgeI (e:Edge):Prop:=(-9223372036854775808<=e.f/\e.f<=9223372036854775807)/\(-9223372036854775808<=e.t/\e.t<=9223372036854775807)/\(-9223372036854775808<=e.c/\e.c<=9223372036854775807)/\(-9223372036854775808<=e.r/\e.r<=9223372036854775807)/\PolI e.pol
end Go.Gsp

namespace Go.Gsp
open Go.Osp
variable {a x am ex er : Int} {l : List (Int × Int)} {xs : List Edge} {j : Nat}
theorem drop_pred (xs:List Edge)(j:Nat)(h0:0<j)(hj:j<=xs.length):xs.drop (j-1)=xs.getD (j-1) noEdge::xs.drop j:=by
  rw[List.drop_eq_getElem_cons (by omega),show j-1+1=j by omega]
  simp[List.getD,show j-1<xs.length by omega]
theorem costF_err:∀(xs:List Edge) (j:Nat),costF a x (xs.drop j)= .error er->costF a x xs= .error er
  |_,0,h=>h
  |[],j+1,h=>by simpa using h
  |e::xs,j+1,h=>by
    have:=costF_err xs j (by simpa using h)
    simp[costF,this]
theorem costF_six (h0:0<j)(hj:j<=xs.length)(h:costF a x (xs.drop j)= .ok (some (am,ex),l))(h1:¬inB am (xs.getD (j-1) noEdge).pol.l (min (xs.getD (j-1) noEdge).pol.m (xs.getD (j-1) noEdge).r)=true):costF a x xs= .error 6:=by
  refine costF_err xs (j-1) ?_
  rw[drop_pred xs j h0 hj,costF,h]
  simp only[Bool.eq_false_iff.2 h1,if_true]
theorem costF_late (h0:0<j)(hj:j<=xs.length)(h:costF a x (xs.drop j)= .ok (some (am,ex),l))(h1:inB am (xs.getD (j-1) noEdge).pol.l (min (xs.getD (j-1) noEdge).pol.m (xs.getD (j-1) noEdge).r)=true)(h2:1048576<ex):costF a x xs= .error 16:=by
  refine costF_err xs (j-1) ?_
  rw[drop_pred xs j h0 hj,costF,h]
  simp[-List.getD_eq_getElem?_getD,h1,h2]
theorem costF_step (h0:0<j)(hj:j<=xs.length)(h:costF a x (xs.drop j)= .ok (some (am,ex),l))(h1:inB am (xs.getD (j-1) noEdge).pol.l (min (xs.getD (j-1) noEdge).pol.m (xs.getD (j-1) noEdge).r)=true)(h2:¬1048576<ex):
    costF a x (xs.drop (j-1))= .ok (nextC (xs.getD (j-1) noEdge) am ex,(am,ex)::l):=by
  rw[drop_pred xs j h0 hj,costF,h]
  simp[-List.getD_eq_getElem?_getD,h1,h2]
theorem costF_none (h0:0<j)(hj:j<=xs.length)(h:costF a x (xs.drop j)= .ok (none,l)):costF a x xs= .error 6:=by
  refine costF_err xs (j-1) ?_
  rw[drop_pred xs j h0 hj,costF,h]
theorem nextC_none {e:Edge}(h:¬(feeG e.pol am).2=true\/¬(addC am (feeG e.pol am).1).2=true):nextC e am ex=none:=by
  unfold nextC
  rw[if_neg]
  rw[Bool.and_eq_true]
  rintro⟨b,c⟩
  rcases h with h|h<;>contradiction
theorem addC_val {a b:Int}(h:(addC a b).2=true):(addC a b).1=a+b/\0<=a+b/\a+b<=1125899906842624:=by
  unfold addC at*
  split at h
  · rename_i hc
    simp only[coinB,Bool.and_eq_true,decide_eq_true_eq]at hc
    have c:=inB_T hc.1.1
    have d:=inB_T hc.1.2
    exact⟨by rw[if_pos (by simp[coinB,hc])],by omega,by omega⟩
  · cases h
theorem nextC_some {e:Edge}(h1:(feeG e.pol am).2=true)(h2:(addC am (feeG e.pol am).1).2=true):nextC e am ex=some ((addC am (feeG e.pol am).1).1,ex+e.pol.d):=by
  unfold nextC
  rw[if_pos (by simp[h1,h2]),(addC_val h2).1]
theorem costG_way {xs:List Edge}{a x:Int}(h:¬wayG xs=true):costG xs a x=([],[],19):=by unfold costG;rw[if_pos (by simpa using h)]
theorem costG_arg {xs:List Edge}{a x:Int}(h:wayG xs=true)(h1:¬inB a 1 1125899906842624=true\/¬inB x 1 1048576=true):costG xs a x=([],[],1):=by
  unfold costG
  rw[if_neg (by simp[h]),if_pos (by simpa using h1)]
theorem costG_er {xs:List Edge}{a x er:Int}(h:wayG xs=true)(h1:inB a 1 1125899906842624=true)(h2:inB x 1 1048576=true)(h3:costF a x xs= .error er):costG xs a x=([],[],er):=by
  unfold costG
  rw[if_neg (by simp[h]),if_neg (by simp[h1,h2]),h3]
theorem costG_ok {xs:List Edge}{a x:Int}{nx:Option (Int×Int)}{l:List (Int×Int)}(h:wayG xs=true)(h1:inB a 1 1125899906842624=true)(h2:inB x 1 1048576=true)(h3:costF a x xs= .ok (nx,l)):costG xs a x=(l.map Prod.fst,l.map Prod.snd,0):=by
  unfold costG
  rw[if_neg (by simp[h]),if_neg (by simp[h1,h2]),h3]
theorem rep_set (l:List Int)(v:Int)(j:Nat)(h:0<j):(List.replicate j 0++l).set (j-1) v=List.replicate (j-1) 0++v::l:=by
  rw[List.set_append_left _ _ (by simp;omega)]
  obtain⟨k,rfl⟩:∃k,j=k+1:=⟨j-1,by omega⟩
  rw[Nat.add_sub_cancel,List.replicate_succ',List.set_append_right _ _ (by simp)]
  simp
theorem polI_ok {p:Pol}(h:polOk p=true):PolI p:=by
  have:=polOk_T h
  refine⟨⟨?_,?_⟩,⟨?_,?_⟩,⟨?_,?_⟩,⟨?_,?_⟩,⟨?_,?_⟩⟩<;>omega
theorem costF_len:∀(w:List Edge) (n:Option (Int×Int)) (l:List (Int×Int)),costF a x w= .ok (n,l)->l.length=w.length
  |[],n,l,h=>by simp[costF]at h;rw[h.2];rfl
  |e::t,n,l,h=>by
    rw[costF]at h
    split at h
    · cases h
    · cases h
    · rename_i a1 x1 l1 heq
      have ih:=costF_len t _ _ heq
      split at h
      · cases h
      · split at h
        · cases h
        · injection h with h
          injection h with _ h
          rw[<-h,List.length_cons,List.length_cons,ih]
theorem costG_inv {w:List Edge}{a x:Int}(h:(costG w a x).2.2=0):wayG w=true/\inB a 1 1125899906842624=true/\inB x 1 1048576=true/\∃nx l,costF a x w= .ok (nx,l)/\costG w a x=(l.map Prod.fst,l.map Prod.snd,0)/\l.length=w.length:=by
  by_cases b:wayG w=true
  · by_cases c:inB a 1 1125899906842624=true
    · by_cases d:inB x 1 1048576=true
      · refine⟨b,c,d,?_⟩
        cases hf:costF a x w with
        |error er=>
          have he:=costG_er b c d hf
          rw[he]at h
          have hne:∀(w:List Edge) (er:Int),costF a x w= .error er->er=6\/er=16:=by
            intro w
            induction w with
            |nil=>intro er h;simp[costF]at h
            |cons e t ih=>
              intro er h
              rw[costF]at h
              split at h
              · rename_i heq;injection h with h;exact ih er (by rw[heq,h])
              · injection h with h;exact .inl h.symm
              · split at h
                · injection h with h;exact .inl h.symm
                · split at h
                  · injection h with h;exact .inr h.symm
                  · cases h
          have:=hne w er hf
          simp at h
          omega
        |ok p=>obtain⟨nx,l⟩:=p;exact⟨nx,l,rfl,costG_ok b c d hf,costF_len w nx l hf⟩
      · rw[costG_arg b (.inr d)]at h;simp at h
    · rw[costG_arg b (.inl c)]at h;simp at h
  · rw[costG_way b]at h;simp at h
theorem costG_lens {w:List Edge}{a x:Int}(h:(costG w a x).2.2=0):(costG w a x).1.length=w.length/\(costG w a x).2.1.length=w.length:=by
  obtain⟨_,_,_,nx,l,_,b,c⟩:=costG_inv h
  rw[b];simp[c]
theorem wayG_at {xs:List Edge}(h:wayG xs=true){i:Nat}(hi:i<xs.length):WayAt xs i:=(of_decide_eq_true h:WayP xs).2 i hi
theorem wayG_len {xs:List Edge}(h:wayG xs=true):1<=xs.length/\xs.length<=8:=(of_decide_eq_true h:WayP xs).1
end Go.Gsp
namespace Go.Gsp
end Go.Gsp
namespace Go.Gsp
variable {a x : Int}
theorem costF_at:∀(xs:List Edge) (nx:Option (Int×Int)) (l:List (Int×Int)),costF a x xs= .ok (nx,l)->
    (∀i,i<xs.length->inB (l.getD i (0,0)).1 (xs.getD i noEdge).pol.l (min (xs.getD i noEdge).pol.m (xs.getD i noEdge).r)=true/\¬1048576<(l.getD i (0,0)).2)/\
    (∀i,i+1<xs.length->nextC (xs.getD (i+1) noEdge) (l.getD (i+1) (0,0)).1 (l.getD (i+1) (0,0)).2=some (l.getD i (0,0)))/\
    (0<xs.length->l.getD (xs.length-1) (0,0)=(a,x))/\nx=(if xs.length=0 then some (a,x)else nextC (xs.getD 0 noEdge) (l.getD 0 (0,0)).1 (l.getD 0 (0,0)).2)
  |[],nx,l,h=>by
    simp[costF]at h
    obtain⟨rfl,rfl⟩:=h
    exact⟨fun i hi=>absurd hi (Nat.not_lt_zero _),fun i hi=>absurd hi (Nat.not_lt_zero _),fun h=>absurd h (Nat.lt_irrefl _),rfl⟩
  |e::t,nx,l,h=>by
    rw[costF]at h
    split at h
    · cases h
    · cases h
    · rename_i a1 x1 l1 heq
      obtain⟨c,d,f,b⟩:=costF_at t _ _ heq
      split at h
      · cases h
      · rename_i hin
        split at h
        · cases h
        · rename_i hx
          injection h with h
          injection h with hn hl
          subst hl
          refine⟨?_,?_,?_,?_⟩
          · intro i hi
            cases i with
            |zero=>exact⟨by simpa using hin,hx⟩
            |succ i=>have:=c i (by simpa using hi);simpa using this
          · intro i hi
            cases i with
            |zero=>
              have ht:0<t.length:=by simpa using hi
              rw[if_neg (by omega)]at b
              simp only[List.getD_cons_succ,List.getD_cons_zero]at*
              rw[<-b]
            |succ i=>have:=d i (by simpa using hi);simpa using this
          · intro _
            cases t with
            |nil=>simp at b;obtain⟨rfl,rfl⟩:=b;rfl
            |cons e2 t2=>have:=f (by simp);simpa using this
          · rw[if_neg (by simp)];exact hn.symm
theorem nextC_inv {e:Edge}{am ex:Int}{p:Int×Int}(h:nextC e am ex=some p):(feeG e.pol am).2=true/\(addC am (feeG e.pol am).1).2=true/\p=(am+(feeG e.pol am).1,ex+e.pol.d):=by
  unfold nextC at h
  split at h
  · rename_i hc
    rw[Bool.and_eq_true]at hc
    injection h with h
    exact⟨hc.1,hc.2,h.symm⟩
  · cases h
structure Costs (w : List Edge) (a x : Int) (S T : List Int) : Prop where
  way : wayG w = true
  amt : 1 <= a /\ a <= 1125899906842624
  exp : 1 <= x /\ x <= 1048576
  lenS : S.length = w.length
  lenT : T.length = w.length
  len : 1 <= w.length /\ w.length <= 8
  room : ∀ i, i < w.length -> ((w.getD i noEdge).pol.l <= S.getD i 0 /\ S.getD i 0 <= (w.getD i noEdge).pol.m /\ S.getD i 0 <= (w.getD i noEdge).r) /\ T.getD i 0 <= 1048576
  endS : S.getD (w.length - 1) 0 = a
  endT : T.getD (w.length - 1) 0 = x
  step : ∀ i, i + 1 < w.length -> (feeG (w.getD (i + 1) noEdge).pol (S.getD (i + 1) 0)).2 = true /\ (addC (S.getD (i + 1) 0) (feeG (w.getD (i + 1) noEdge).pol (S.getD (i + 1) 0)).1).2 = true /\ S.getD i 0 = S.getD (i + 1) 0 + (feeG (w.getD (i + 1) noEdge).pol (S.getD (i + 1) 0)).1 /\ T.getD i 0 = T.getD (i + 1) 0 + (w.getD (i + 1) noEdge).pol.d
theorem map_getD {α β:Type}(f:α->β)(l:List α)(i:Nat)(z:α):(l.map f).getD i (f z)=f (l.getD i z):=by
  simp only[List.getD,List.getElem?_map]
  cases l[i]? <;>rfl
theorem costs_of {w:List Edge}(h:(costG w a x).2.2=0):Costs w a x (costG w a x).1 (costG w a x).2.1:=by
  obtain⟨hw,ha,hx,nx,l,hF,hC,hl⟩:=costG_inv h
  obtain⟨k,m,e,n⟩:=costF_at w nx l hF
  have hwl:=wayG_len hw
  rw[hC]
  have b:∀i,(l.map Prod.fst).getD i 0=(l.getD i (0,0)).1:=fun i=>map_getD Prod.fst l i (0,0)
  have c:∀i,(l.map Prod.snd).getD i 0=(l.getD i (0,0)).2:=fun i=>map_getD Prod.snd l i (0,0)
  refine⟨hw,inB_T ha,inB_T hx,by simp[hl],by simp[hl],hwl,?_,?_,?_,?_⟩
  · intro i hi
    obtain⟨d,f⟩:=k i hi
    have:=inB_T d
    show(_<=(l.map Prod.fst).getD i 0/\(l.map Prod.fst).getD i 0<=_/\(l.map Prod.fst).getD i 0<=_)/\(l.map Prod.snd).getD i 0<=_
    rw[b,c]
    omega
  · show(l.map Prod.fst).getD _ 0=a
    rw[b,e (by omega)]
  · show(l.map Prod.snd).getD _ 0=x
    rw[c,e (by omega)]
  · intro i hi
    obtain⟨d,f,j⟩:=nextC_inv (m i hi)
    show(feeG _ ((l.map Prod.fst).getD _ 0)).2=true/\(addC ((l.map Prod.fst).getD _ 0) (feeG _ ((l.map Prod.fst).getD _ 0)).1).2=true/\(l.map Prod.fst).getD _ 0=(l.map Prod.fst).getD _ 0+(feeG _ ((l.map Prod.fst).getD _ 0)).1/\(l.map Prod.snd).getD _ 0=(l.map Prod.snd).getD _ 0+_
    rw[b,c,b,c]
    exact⟨d,f,by rw[j],by rw[j]⟩
theorem feeG_bound (p:Pol)(am:Int):0<=(feeG p am).1/\(feeG p am).1<=1125899906842624:=by
  unfold feeG
  split
  · unfold addC
    split
    · rename_i hc
      simp only[coinB,Bool.and_eq_true,decide_eq_true_eq]at hc
      have b:=inB_T hc.1.1
      have c:=inB_T hc.1.2
      show 0<=_+_/\_+_<=_
      omega
    · show(0:Int)<=0/\(0:Int)<=_
      omega
  · show(0:Int)<=0/\(0:Int)<=_
    omega
end Go.Gsp
namespace Go.Gsp
theorem getD_drop' (xs:List Edge)(k i:Nat):(xs.drop k).getD i noEdge=xs.getD (k+i) noEdge:=by simp[List.getD,List.getElem?_drop]
theorem way_drop {xs:List Edge}{k:Nat}(h:wayG xs=true)(hk:k<xs.length):wayG (xs.drop k)=true:=by
  have hl:=wayG_len h
  refine decide_eq_true ⟨by rw[List.length_drop];omega,fun i hi=>?_⟩
  rw[List.length_drop]at hi
  obtain⟨b,c,d⟩:=wayG_at h (i:=k+i) (by omega)
  refine⟨by rw[getD_drop'];exact b,fun e=>?_,fun q hq=>?_⟩
  · rw[getD_drop',getD_drop',show k+(i-1)=k+i-1 by omega];exact c (by omega)
  · rw[getD_drop',getD_drop'];exact d (k+q) (by omega)
theorem way_once {xs:List Edge}(h:wayG xs=true){i j:Nat}(hji:j<i)(hi:i<xs.length):(xs.getD j noEdge).f≠(xs.getD i noEdge).f/\(xs.getD j noEdge).t≠(xs.getD i noEdge).t/\(xs.getD j noEdge).f≠(xs.getD i noEdge).t:=by
  have hf:∀i,0<i->i<xs.length->(xs.getD (i-1) noEdge).t=(xs.getD i noEdge).f:=fun i c hi=>(wayG_at h hi).2.1 c
  have hn:∀i k,i<xs.length->k<=i->(xs.getD k noEdge).f≠(xs.getD i noEdge).t:=fun i k hi hk=>(wayG_at h hi).2.2 k hk
  refine⟨fun he=>?_,fun he=>?_,hn i j hi (by omega)⟩
  · have b:=hf i (by omega) hi
    exact hn (i-1) j (by omega) (by omega) (by rw[he,b])
  · have b:=hf (j+1) (by omega) (by omega)
    rw[show j+1-1=j by omega]at b
    exact hn i (j+1) hi (by omega) (by rw[<-b,he])
variable {a x : Int}
theorem costF_drop:∀(xs:List Edge) (k:Nat) (nx:Option (Int×Int)) (l:List (Int×Int)),costF a x xs= .ok (nx,l)->∃n2,costF a x (xs.drop k)= .ok (n2,l.drop k)
  |xs,0,nx,l,h=>⟨nx,h⟩
  |[],k+1,nx,l,h=>by
    have:l=[]:=by simp[costF]at h;exact h.2
    subst this
    exact⟨nx,by simpa using h⟩
  |e::t,k+1,nx,l,h=>by
    rw[costF]at h
    split at h
    · cases h
    · cases h
    · rename_i a1 x1 l1 heq
      split at h
      · cases h
      · split at h
        · cases h
        · injection h with h
          injection h with _ hl
          subst hl
          simpa using costF_drop t k _ _ heq
theorem costG_drop {w:List Edge}(h:(costG w a x).2.2=0){k:Nat}(hk:k<w.length):costG (w.drop k) a x=((costG w a x).1.drop k,(costG w a x).2.1.drop k,0):=by
  obtain⟨hw,ha,hx,nx,l,hF,hC,hl⟩:=costG_inv h
  obtain⟨c,b⟩:=costF_drop w k nx l hF
  rw[costG_ok (way_drop hw hk) ha hx b,hC]
  simp[List.map_drop]
theorem Costs.ge {w:List Edge}{S T:List Int}(h:Costs w a x S T):∀d i,i+d+1=w.length->a<=S.getD i 0/\x<=T.getD i 0:=by
  intro d
  induction d with
  |zero=>intro i hi;have b:=h.endS;have c:=h.endT;rw[show w.length-1=i by omega]at b c;omega
  |succ d ih=>
    intro i hi
    have b:=ih (i+1) (by omega)
    obtain⟨e,f,j,k⟩:=h.step i (by omega)
    have hf:=feeG_bound (w.getD (i+1) noEdge).pol (S.getD (i+1) 0)
    have hok:=edgeOk_T (wayG_at h.way (i:=i+1) (by omega)).1
    have hp:=polOk_T hok.2.2.2.2.2
    omega
end Go.Gsp
namespace Go.Gsp
open Go.Osp Go.Num
end Go.Gsp

namespace Go.Osp
open Go.Hsp Go.Num
def nPart:List Byte:=[112,97,114,116]
def nSplit:List Byte:=[115,112,108,105,116]
def partD (m i:Nat):Nat:=fromB (tag nPart [be8 m,[BitVec.ofNat 8 i]])
def partK (s k:Nat):List Nat:=(List.range k).map (partD (addS 0 s))
def partsL (s:Nat)(n:Int):List Nat:=if n<1\/8<n then[]else partK s (n.toNat-1)++[addS s (negS (sumS (partK s (n.toNat-1))))]
theorem partK_len (s k:Nat):(partK s k).length=k:=by simp[partK]
theorem partK_succ (s k:Nat):partK s (k+1)=partK s k++[partD (addS 0 s) k]:=by simp[partK,List.range_succ]
theorem partK_lt (s k:Nat):∀t∈partK s k,t<q:=fun t ht=>by
  obtain⟨i,_,rfl⟩:=List.mem_map.1 ht
  exact fromB_lt _
theorem partsL_len {s:Nat}{n:Int}(h1:1<=n)(h8:n<=8):(partsL s n).length=n.toNat:=by
  unfold partsL
  rw[if_neg (by omega),List.length_append,partK_len]
  show n.toNat-1+1=n.toNat
  omega
theorem partsL_none {s:Nat}{n:Int}(h:n<1\/8<n):partsL s n=[]:=by unfold partsL;rw[if_pos h]
theorem partsL_le (s:Nat)(n:Int):(partsL s n).length<=8:=by
  by_cases h:n<1\/8<n
  · rw[partsL_none h];exact Nat.zero_le _
  · rw[partsL_len (by omega) (by omega)];omega
theorem partsL_len_le (s n:Nat):(partsL s (n:Int)).length<=n:=by
  by_cases h:(n:Int)<1\/8<(n:Int)
  · rw[partsL_none h];exact Nat.zero_le _
  · rw[partsL_len (by omega) (by omega)];omega
theorem partsL_lt (s:Nat)(n:Int):∀t∈partsL s n,t<q:=fun t ht=>by
  unfold partsL at ht
  split at ht
  · cases ht
  · rcases List.mem_append.1 ht with h|h
    · exact partK_lt _ _ t h
    · rw[List.mem_singleton.1 h];exact addS_lt _ _
structure Pln where
  pts : List Nat
  bl : List Nat
def noPln:Pln:=⟨[],[]⟩
def seedD (seed:List Byte)(i:Nat):List Byte:=tag nSplit [seed,[BitVec.ofNat 8 i]]
def PlnMay (t n:Nat):Prop:=base t≠1/\1<=n/\n<=8
def planT (t:Nat)(sd:List Byte)(n:Nat):Pln:=⟨fromP (base t) (blindsP sd (n-1)),blindsP sd (n-1)⟩
def planAt (s:Nat)(seed:List Byte)(ns:List Nat)(i:Nat):Pln:=planT ((partsL s ns.length).getD i 0) (seedD seed i) (ns.getD i 0)
def planK (s:Nat)(seed:List Byte)(ns:List Nat)(k:Nat):List Pln:=(List.range k).map (planAt s seed ns)
instance (t n : Nat) : Decidable (PlnMay t n) := by unfold PlnMay; infer_instance
def PlansMay (s:Nat)(ns:List Nat):Prop:=∀i,i<(partsL s ns.length).length->PlnMay ((partsL s ns.length).getD i 0) (ns.getD i 0)
instance (s : Nat) (ns : List Nat) : Decidable (PlansMay s ns) := by unfold PlansMay; infer_instance
def plansL (s:Nat)(seed:List Byte)(ns:List Nat):List Pln:=if PlansMay s ns then planK s seed ns (partsL s ns.length).length else[]
theorem planK_len (s:Nat)(seed:List Byte)(ns:List Nat)(k:Nat):(planK s seed ns k).length=k:=by simp[planK]
theorem planK_succ (s:Nat)(seed:List Byte)(ns:List Nat)(k:Nat):planK s seed ns (k+1)=planK s seed ns k++[planAt s seed ns k]:=by simp[planK,List.range_succ]
theorem plansL_yes {s:Nat}{seed:List Byte}{ns:List Nat}(h:PlansMay s ns):plansL s seed ns=planK s seed ns (partsL s ns.length).length:=if_pos h
theorem plansL_no {s:Nat}{seed:List Byte}{ns:List Nat}(h:¬PlansMay s ns):plansL s seed ns=[]:=if_neg h
theorem planT_len (t:Nat)(sd:List Byte){n:Nat}(h:1<=n):(planT t sd n).pts.length=n/\(planT t sd n).bl.length=n-1:=by
  unfold planT
  simp only
  rw[fromP_length,blindsP_length]
  omega
theorem set_fill {α:Type}(l:List α)(z v:α)(n k:Nat)(hl:l.length=k)(hk:k<n):(l++List.replicate (n-k) z).set k v=(l++[v])++List.replicate (n-(k+1)) z:=by
  subst hl
  rw[List.set_append_right _ _ (Nat.le_refl _),Nat.sub_self,show n-l.length=(n-(l.length+1))+1 by omega,List.replicate_succ,List.set_cons_zero,List.append_assoc]
  rfl
end Go.Osp

