/- SplitTells: for every input the law answers true and leaves its arguments as they were. -/

set_option linter.unusedVariables false
set_option linter.unusedSimpArgs false
namespace Go.wK
abbrev Byte:=BitVec 8
abbrev Word:=BitVec 32
def wL (m:Nat):List Byte:=[56,48,40,32,24,16,8,0].map fun k=>BitVec.ofNat 8 (m>>>k)
def ny (m k:Nat):List Byte:=(wL m).take k
theorem iA (m:Nat):(wL m).length=8:=rfl
theorem pV (m k:Nat)(h:k<8):ny m (k+1)=ny m k++[BitVec.ofNat 8 (m>>>(56-8*k))]:=by
  have:k=0\/k=1\/k=2\/k=3\/k=4\/k=5\/k=6\/k=7:=by omega
  rcases this with rfl|rfl|rfl|rfl|rfl|rfl|rfl|rfl<;>rfl
def Ld (x:Word)(k:Nat):Word:=x<<<(32-k)|||x>>>k
def Sd (b:List Byte):Word:=(b.getD 0 0).setWidth 32<<<24|||(b.getD 1 0).setWidth 32<<<16|||(b.getD 2 0).setWidth 32<<<8|||(b.getD 3 0).setWidth 32
def AZ (w:List Word)(k:Nat):Word:=
  w.getD (k-16) 0+(Ld (w.getD (k-15) 0) 7^^^Ld (w.getD (k-15) 0) 18^^^(w.getD (k-15) 0)>>>3)+w.getD (k-7) 0
    +(Ld (w.getD (k-2) 0) 17^^^Ld (w.getD (k-2) 0) 19^^^(w.getD (k-2) 0)>>>10)
def lC (b:List Byte):Nat->List Word
  |0=>[]
  |k+1=>lC b k++[if k<16 then Sd (b.drop (4*k))else AZ (lC b k) k]
theorem kD (b:List Byte):∀k,(lC b k).length=k
  |0=>rfl
  |k+1=>by simp[lC,kD b k]
def sched (b:List Byte):List Word:=lC b 64
def table:List Word:=[
  0x428a2f98,0x71374491,0xb5c0fbcf,0xe9b5dba5,0x3956c25b,0x59f111f1,0x923f82a4,0xab1c5ed5,
  0xd807aa98,0x12835b01,0x243185be,0x550c7dc3,0x72be5d74,0x80deb1fe,0x9bdc06a7,0xc19bf174,
  0xe49b69c1,0xefbe4786,0x0fc19dc6,0x240ca1cc,0x2de92c6f,0x4a7484aa,0x5cb0a9dc,0x76f988da,
  0x983e5152,0xa831c66d,0xb00327c8,0xbf597fc7,0xc6e00bf3,0xd5a79147,0x06ca6351,0x14292967,
  0x27b70a85,0x2e1b2138,0x4d2c6dfc,0x53380d13,0x650a7354,0x766a0abb,0x81c2c92e,0x92722c85,
  0xa2bfe8a1,0xa81a664b,0xc24b8b70,0xc76c51a3,0xd192e819,0xd6990624,0xf40e3585,0x106aa070,
  0x19a4c116,0x1e376c08,0x2748774c,0x34b0bcb5,0x391c0cb3,0x4ed8aa4a,0x5b9cca4f,0x682e6ff3,
  0x748f82ee,0x78a5636f,0x84c87814,0x8cc70208,0x90befffa,0xa4506ceb,0xbef9a3f7,0xc67178f2]
def first:List Word:=[0x6a09e667,0xbb67ae85,0x3c6ef372,0xa54ff53a,0x510e527f,0x9b05688c,0x1f83d9ab,0x5be0cd19]
def stepW (v:List Word)(k w:Word):List Word:=
  let s:=Ld (v.getD 4 0) 6^^^Ld (v.getD 4 0) 11^^^Ld (v.getD 4 0) 25
  let t:=v.getD 7 0+s+(v.getD 6 0^^^v.getD 4 0&&&(v.getD 5 0^^^v.getD 6 0))+k+w
  let r:=Ld (v.getD 0 0) 2^^^Ld (v.getD 0 0) 13^^^Ld (v.getD 0 0) 22
  let most:=v.getD 0 0&&&v.getD 1 0|||v.getD 2 0&&&(v.getD 0 0|||v.getD 1 0)
  [t+r+most,v.getD 0 0,v.getD 1 0,v.getD 2 0,v.getD 3 0+t,v.getD 4 0,v.getD 5 0,v.getD 6 0]
def jX (h:List Word)(ws:List Word):Nat->List Word
  |0=>h
  |i+1=>stepW (jX h ws i) (table.getD i 0) (ws.getD i 0)
theorem sS (h ws:List Word)(hh:h.length=8):∀i,(jX h ws i).length=8
  |0=>hh
  |i+1=>by simp[jX,stepW]
def qE (v h:List Word)(i:Nat):List Word:=(List.range 8).map fun j=>if j<i then v.getD j 0+h.getD j 0 else v.getD j 0
theorem lZ (v h:List Word)(i:Nat):(qE v h i).length=8:=by simp[qE]
theorem A7 (v h:List Word)(hv:v.length=8):qE v h 0=v:=by
  apply List.ext_getElem (by simp[qE,hv])
  intro j c b
  simp[qE,List.getD,b]
theorem qQ (v h:List Word)(i j:Nat)(hj:j<8):(qE v h i)[j]? =some (if j<i then v.getD j 0+h.getD j 0 else v.getD j 0):=by simp[qE,hj]
theorem GG (v h:List Word)(i j:Nat)(hj:j<8):(qE v h i).getD j 0=if j<i then v.getD j 0+h.getD j 0 else v.getD j 0:=by
  rw[List.getD_eq_getElem?_getD,qQ v h i j hj];rfl
theorem A8 (v h:List Word)(i:Nat)(hi:i<8):(qE v h i).set i (v.getD i 0+h.getD i 0)=qE v h (i+1):=by
  apply List.ext_getElem?
  intro j
  by_cases hj:j<8
  · rw[qQ v h (i+1) j hj,List.getElem?_set]
    split
    · subst_vars;simp[lZ,hi]
    · rename_i hne
      rw[qQ v h i j hj]
      by_cases b:j<i
      · rw[if_pos b,if_pos (by omega)]
      · rw[if_neg b,if_neg (by omega)]
  · rw[List.getElem?_eq_none (by simp[lZ];omega),List.getElem?_eq_none (by simp[lZ];omega)]
def mix (h:List Word)(b:List Byte):List Word:=qE (jX h (sched b) 64) h 8
theorem mX (h:List Word)(b:List Byte):(mix h b).length=8:=lZ _ _ _
def Xz (h:List Word)(b:List Byte):Nat->List Word
  |0=>h
  |n+1=>Xz (mix h (b.take 64)) (b.drop 64) n
def jG (h:List Word)(b:List Byte):List Word:=Xz h b (b.length/64)
theorem oC (h:List Word)(b:List Byte)(hb:64<=b.length):jG h b=jG (mix h (b.take 64)) (b.drop 64):=by
  unfold jG
  rw[List.length_drop,show b.length/64=(b.length-64)/64+1 by omega]
  rfl
theorem pW (h:List Word)(b:List Byte)(hb:b.length<64):jG h b=h:=by
  unfold jG
  rw[Nat.div_eq_of_lt hb]
  rfl
def noughts (n:Nat):Nat:=(64+55-n%64)%64
def tail (b:List Byte):List Byte:=b.drop (b.length-b.length%64)++[128]++List.replicate (noughts b.length) 0++wL (8*b.length)
def digest (h:List Word):List Byte:=(List.range 32).map fun k=>((h.getD (k/4) 0)>>>(24-8*(k%4))).setWidth 8
def nL (h:List Word)(k:Nat):List Byte:=(digest h).take k++List.replicate (32-k) 0
theorem mG (h:List Word):(digest h).length=32:=by simp[digest]
theorem sU (h:List Word)(k:Nat)(hk:k<=32):(nL h k).length=32:=by simp[nL,mG];omega
theorem vH (h:List Word)(k:Nat)(hk:k<32):(nL h k).set k (((h.getD (k/4) 0)>>>(24-8*(k%4))).setWidth 8)=nL h (k+1):=by
  have e:(digest h)[k]? =some (((h.getD (k/4) 0)>>>(24-8*(k%4))).setWidth 8):=by simp[digest,hk]
  unfold nL
  have hl:((digest h).take k).length=k:=by simp[mG];omega
  rw[List.set_append,if_neg (by rw[hl];omega),hl,Nat.sub_self,show(32-k)=(32-(k+1))+1 by omega,List.replicate_succ,List.set_cons_zero,List.take_add_one,e]
  simp
def sum (b:List Byte):List Byte:=digest (jG (jG first b) (tail b))
theorem mY (b:List Byte):(sum b).length=32:=mG _
theorem GH (b:List Byte):(tail b).length%64=0:=by
  simp only[tail,List.length_append,List.length_drop,List.length_replicate,iA,List.length_singleton,noughts]
  omega
def kE (name:List Byte):List (List Byte)->List Byte
  |parts=>wL name.length++name++(parts.map fun p=>wL p.length++p).flatten
def lD (name:List Byte)(parts:List (List Byte))(k:Nat):List Byte:=wL name.length++name++((parts.take k).map fun p=>wL p.length++p).flatten
theorem lI (name:List Byte)(parts:List (List Byte)):lD name parts 0=wL name.length++name:=by simp[lD]
theorem A9 (name:List Byte)(parts:List (List Byte))(k:Nat)(q:List Byte)(h:parts[k]? =some q):lD name parts (k+1)=lD name parts k++wL q.length++q:=by
  simp[lD,List.take_add_one,h]
theorem DZ (name:List Byte)(parts:List (List Byte))(k:Nat)(h:parts.length<=k):lD name parts k=kE name parts:=by
  simp[lD,kE,List.take_of_length_le h]
theorem qZ (name:List Byte)(parts:List (List Byte))(k:Nat):(lD name parts k).length<=(kE name parts).length:=by
  have e:kE name parts=lD name parts k++((parts.drop k).map fun p=>wL p.length++p).flatten:=by
    unfold lD kE
    rw[List.append_assoc (wL name.length++name),<-List.flatten_append,<-List.map_append,List.take_append_drop]
  rw[e,List.length_append]
  exact Nat.le_add_right _ _
theorem Ba:∀(parts:List (List Byte)),8*parts.length<=((parts.map fun p=>wL p.length++p).flatten).length
  |[]=>by simp
  |p::ps=>by
    have:=Ba ps
    simp only[List.map_cons,List.flatten_cons,List.length_append,iA,List.length_cons]
    omega
theorem tL (name:List Byte)(parts:List (List Byte)):8*parts.length<=(kE name parts).length:=by
  have:=Ba parts
  unfold kE
  rw[List.length_append]
  omega
def tag (name:List Byte)(parts:List (List Byte)):List Byte:=sum (kE name parts)
theorem nY (name:List Byte)(parts:List (List Byte)):(tag name parts).length=32:=mY _
end Go.wK

namespace Go.wK
def Sg:List Byte:=[115,116,114,101,97,109]
def OP (key:List Byte)(j:Nat):List Byte:=((List.range j).map fun i=>tag Sg [key,wL i]).flatten
def stream (key:List Byte)(n:Nat):List Byte:=(OP key ((n+31)/32)).take n
def Si (a b:List Byte):List Byte:=List.zipWith (· ^^^ ·) a b
def XA (key b:List Byte):List Byte:=Si (stream key b.length) b
def inner (key s:List Byte):List Byte:=XA key (s.take (s.length-8))
end Go.wK

namespace Go.Num
def pm (m:Nat):Nat->Nat->Nat->Nat->Nat
  |0,_,_,out=>out
  |f+1,a,n,out=>pm m f (a*a%m) (n/2) (if n%2=1 then out*a%m else out)
theorem OQ (m:Nat):∀(f a n out:Nat),n<2^f->out<m->pm m f a n out=out*a^n%m
  |0,a,n,out,h,ho=>by
    have:n=0:=by simpa using h
    subst this
    simp[pm,Nat.mod_eq_of_lt ho]
  |f+1,a,n,out,h,ho=>by
    have hm:0<m:=by omega
    have hn:n/2<2^f:=by rw[Nat.pow_succ]at h;omega
    rw[pm]
    by_cases hp:n%2=1
    · rw[if_pos hp,OQ m f _ _ _ hn (Nat.mod_lt _ hm)]
      have e:a^n=a*(a*a)^(n/2):=by
        have b:n=2*(n/2)+1:=by omega
        conv=>lhs;rw[b]
        rw[Nat.pow_succ,Nat.pow_mul,Nat.pow_two,Nat.mul_comm]
      rw[e,Nat.mul_mod,Nat.mod_mod,<-Nat.pow_mod,<-Nat.mul_mod,Nat.mul_assoc]
    · rw[if_neg hp,OQ m f _ _ _ hn ho]
      have e:a^n=(a*a)^(n/2):=by
        have b:n=2*(n/2):=by omega
        conv=>lhs;rw[b]
        rw[Nat.pow_mul,Nat.pow_two]
      rw[e,Nat.mul_mod,<-Nat.pow_mod,<-Nat.mul_mod]
theorem least {p:Nat->Prop}[DecidablePred p](n:Nat)(h:p n):∃k,k<=n/\p k/\∀j,j<k->¬p j:=by
  induction n using Nat.strongRecOn with
  |ind n ih=>
    by_cases hs:∃j,j<n/\p j
    · obtain⟨j,hj,hp⟩:=hs
      obtain⟨k,d,b,c⟩:=ih j hj hp
      exact⟨k,by omega,b,c⟩
    · exact⟨n,Nat.le_refl _,h,fun j hj hp=>hs ⟨j,hj,hp⟩⟩
end Go.Num

namespace Go.Num
def q:Nat:=2305843009213688669
def M:Nat:=4611686018427377339
theorem GI:0<q:=by decide
theorem D5:1<M:=by decide
def pw (a n:Nat):Nat:=pm M 64 a n 1
theorem OT (a n:Nat)(h:n<18446744073709551616):pw a n=a^n%M:=by
  have b:n<2^64:=by rw[show(2:Nat)^64=18446744073709551616 by decide];exact h
  rw[pw,OQ M 64 a n 1 b D5,Nat.one_mul]
theorem step1 (a n out:Nat)(h:n%2=1):(out*a%M)*(a*a%M)^(n/2)%M=out*a^n%M:=by
  have e:a^n=a*(a*a)^(n/2):=by
    have b:n=2*(n/2)+1:=by omega
    conv=>lhs;rw[b]
    rw[Nat.pow_succ,Nat.pow_mul,Nat.pow_two,Nat.mul_comm]
  rw[e,Nat.mul_mod,Nat.mod_mod,<-Nat.pow_mod,<-Nat.mul_mod,Nat.mul_assoc]
theorem step0 (a n out:Nat)(h:¬n%2=1):out*(a*a%M)^(n/2)%M=out*a^n%M:=by
  have e:a^n=(a*a)^(n/2):=by
    have b:n=2*(n/2):=by omega
    conv=>lhs;rw[b]
    rw[Nat.pow_mul,Nat.pow_two]
  rw[e,Nat.mul_mod,<-Nat.pow_mod,<-Nat.mul_mod]
theorem GJ (a n:Nat)(h:n<18446744073709551616):1*a^n%M=pw a n:=by rw[OT a n h,Nat.one_mul]
theorem OU (a out:Nat)(h:out<M):out*a^0%M=out:=by rw[Nat.pow_zero,Nat.mul_one,Nat.mod_eq_of_lt h]
theorem XB:q<18446744073709551616:=by decide
def right (p:Nat):Bool:=decide (0<p)&&decide (p<M)&&decide (pw p q=1)
theorem pJ (p:Nat):right p=true↔0<p/\p<M/\p^q%M=1:=by
  unfold right
  rw[OT p q XB]
  simp[and_assoc]
def taken (p:Nat):Nat:=if right p then p else 1
def scale (p k:Nat):Nat:=pw (taken p) (k%q)
def base (k:Nat):Nat:=scale 4 k
def Z7 (a b:Nat):Nat:=(a%q)*(b%q)%q
def jO (a b:Nat):Nat:=(a%q+b%q)%q
def wO (a:Nat):Nat:=(q-a%q)%q
def lJ (a b:Nat):Nat:=taken a*taken b%M
theorem M6:right 1=true:=by decide+kernel
theorem nz (p:Nat):right (taken p)=true:=by
  unfold taken
  split
  · assumption
  · exact M6
theorem GK {p:Nat}(h:right p=true):taken p=p:=by rw[taken,if_pos h]
theorem Lf {p:Nat}(h:right p=true):p^q%M=1:=((pJ p).1 h).2.2
theorem M7 {p:Nat}(h:right p=true)(k:Nat):p^(k%q)%M=p^k%M:=by
  have e:k=q*(k/q)+k%q:=(Nat.div_add_mod k q).symm
  conv=>rhs;rw[e]
  rw[Nat.pow_add,Nat.pow_mul,Nat.mul_mod,Nat.pow_mod (p^q),Lf h,Nat.one_pow,Nat.mod_eq_of_lt D5,Nat.one_mul,Nat.mod_mod]
theorem M8 {p:Nat}(h:right p=true)(k:Nat):right (p^k%M)=true:=by
  rw[pJ]
  have b:(p^k%M)^q%M=1:=by
    rw[<-Nat.pow_mod,<-Nat.pow_mul,Nat.mul_comm,Nat.pow_mul,Nat.pow_mod,Lf h,Nat.one_pow,Nat.mod_eq_of_lt D5]
  refine⟨?_,Nat.mod_lt _ (by decide),b⟩
  rcases Nat.eq_zero_or_pos (p^k%M)with c|c
  · rw[c,Nat.zero_pow GI]at b
    simp at b
  · exact c
theorem OV (k:Nat):k%q<18446744073709551616:=Nat.lt_trans (Nat.mod_lt _ GI) XB
theorem OW (p k:Nat):scale p k=taken p^k%M:=by
  rw[scale,OT _ _ (OV k),M7 (nz p)]
theorem GL (p k:Nat):right (scale p k)=true:=by rw[OW];exact M8 (nz p) k
theorem Lg (a b:Nat):jO a b=(a+b)%q:=by rw[jO,<-Nat.add_mod]
theorem vU (k:Nat):right (base k)=true:=GL 4 k
theorem JP (a b:Nat):right (lJ a b)=true:=by
  rw[pJ]
  have c:(lJ a b)^q%M=1:=by
    rw[lJ,<-Nat.pow_mod,Nat.mul_pow,Nat.mul_mod,Lf (nz a),Lf (nz b),Nat.mul_one,Nat.mod_eq_of_lt D5]
  refine⟨?_,Nat.mod_lt _ (by decide),c⟩
  rcases Nat.eq_zero_or_pos (lJ a b)with d|d
  · rw[d,Nat.zero_pow GI]at c
    simp at c
  · exact d
def iW (n:Nat):List (BitVec 8)->Nat
  |[]=>n
  |b::l=>iW ((256*n+b.toNat)%(q-1)) l
def nM (l:List (BitVec 8)):Nat:=iW 0 l+1
theorem uD:∀(l:List (BitVec 8)) (n:Nat),n<q-1->iW n l<q-1
  |[],_,h=>h
  |_::l,_,_=>uD l _ (Nat.mod_lt _ (by decide))
theorem OX (l:List (BitVec 8)):nM l<q:=by
  have:=uD l 0 (by decide)
  have:=GI
  unfold nM;omega
theorem yY (l:List (BitVec 8))(k n:Nat)(b:BitVec 8)(h:l[k]? =some b):iW n (l.take (k+1))=(256*iW n (l.take k)+b.toNat)%(q-1):=by
  have ap:∀(l m:List (BitVec 8)) (n:Nat),iW n (l++m)=iW (iW n l) m:=by
    intro l
    induction l with
    |nil=>intro m n;rfl
    |cons c l ih=>intro m n;exact ih m _
  rw[List.take_add_one,h,ap]
  rfl
end Go.Num

namespace Go.wM
open Go.wK Go.Num
abbrev Hop:=Int×Int×Int×Int×Nat×Nat
abbrev Stop:=Nat×List Byte
def Sj:List Byte:=[115,104,97,114,101,100]
def pX:List Byte:=[98,108,105,110,100]
def Z8:List Byte:=[114,104,111]
def Z9:List Byte:=[109,97,99]
def VW:List Byte:=[111,110,105,111,110]
def aaa:List Byte:=[112,97,100]
def ZR (i:Int):Nat:=(i%18446744073709551616).toNat
def aab (h:Hop):List Byte:=wL (ZR h.1)++wL (ZR h.2.1)++wL (ZR h.2.2.1)++wL (ZR h.2.2.2.1)++wL h.2.2.2.2.1++wL h.2.2.2.2.2
def o9 (h:Hop):Bool:=(decide (-1<=h.1/\h.1<=11)&&decide (0<=h.2.1/\h.2.1<=1048575)&&decide (0<=h.2.2.1/\h.2.2.1<=1125899906842624)&&decide (0<=h.2.2.2.1/\h.2.2.2.1<=1048576))&&(decide (h.2.2.2.2.2<q)&&(decide (h.2.2.2.2.1=0)||right h.2.2.2.2.1))
def Sk (p:Nat):List Byte:=tag Sj [wL p]
def VX (s:Stop):Nat:=nM (tag pX [wL s.1,s.2])
def rho (s:Stop)(n:Nat):List Byte:=stream (tag Z8 [s.2]) n
def VY (s:Stop)(b:List Byte):List Byte:=tag Z9 [s.2,b]
def JQ (seed:List Byte):Nat:=nM (tag VW [seed])
def aac (seed:List Byte):List Byte:=stream (tag aaa [seed]) 640
def UZ (x k:Nat):Stop:=(base x,Sk (scale k x))
def U0 (x k:Nat):Nat:=Z7 x (VX (UZ x k))
def VZ:Nat->List Nat->List Stop
  |_,[]=>[]
  |x,k::ks=>UZ x k::VZ (U0 x k) ks
def zeros (n:Nat):List Byte:=List.replicate n 0
def GM (f:List Byte)(s:Stop):List Byte:=Si (f++zeros 80) ((rho s 720).drop (720-(f.length+80)))
def JR:List Byte->List Stop->List Byte
  |f,[]=>f
  |f,s::l=>JR (GM f s) l
def OY (l:List Stop):List Byte:=JR [] (l.take (l.length-1))
def put (r f:List Byte):List Byte:=r.take (r.length-f.length)++f
def layer (s:Stop)(h:Hop)(m r:List Byte):List Byte:=Si (aab h++m++r.take 560) (rho s 640)
def GN (pad:List Byte):List Byte->List Stop->List Hop->List Byte×List Byte
  |f,[s],h::_=>(put (layer s h (zeros 32) pad) f,VY s (put (layer s h (zeros 32) pad) f))
  |f,s::l,h::hs=>(layer s h (GN pad (GM f s) l hs).2 (GN pad (GM f s) l hs).1,VY s (layer s h (GN pad (GM f s) l hs).2 (GN pad (GM f s) l hs).1))
  |_,_,_=>(pad,zeros 32)
def opened (s:Stop)(r:List Byte):List Byte:=Si (r++zeros 80) (rho s 720)
def Sm (e:Nat)(rm:List Byte×List Byte):List Byte:=wL e++rm.1++rm.2
def Lh:Hop:=(0,0,0,0,0,0)
theorem aad:M<18446744073709551616:=by decide
end Go.wM

namespace Go.wM
open Go.wK Go.Num
def D6 (l:List Stop)(hs:List Hop)(st:List Byte×List Byte)(k:Nat):List Byte×List Byte:=
  ((if k+1=l.length then put (layer (l.getD k (0,[])) (hs.getD k Lh) st.2 st.1) (OY l)else layer (l.getD k (0,[])) (hs.getD k Lh) st.2 st.1),
   VY (l.getD k (0,[])) (if k+1=l.length then put (layer (l.getD k (0,[])) (hs.getD k Lh) st.2 st.1) (OY l)else layer (l.getD k (0,[])) (hs.getD k Lh) st.2 st.1))
end Go.wM

namespace Go.wM
open Go.wK Go.Num
def V3:Nat->List Nat->Nat
  |x,[]=>x
  |x,k::ks=>V3 (U0 x k) ks
def pkt (pts:List Nat)(hs:List Hop)(seed:List Byte)(i:Nat):List Byte:=
  if i<pts.length then Sm (base (V3 (JQ seed) (pts.take i))) (GN (aac seed) (JR [] ((VZ (JQ seed) pts).take i)) (VZ (V3 (JQ seed) (pts.take i)) (pts.drop i)) (hs.drop i))else[]
theorem uE (k:Nat):base k<18446744073709551616:=Nat.lt_trans ((pJ _).1 (vU k)).2.1 aad
end Go.wM
namespace Go.wK
end Go.wK

namespace Go.wM
open Go.wK Go.Num
def oD (l:List Nat):Nat:=l.foldl jO 0
theorem Su (a b:Nat):jO a b<q:=Nat.mod_lt _ GI
theorem M9 (l:List Nat)(k x:Nat)(h:l[k]? =some x):oD (l.take (k+1))=jO (oD (l.take k)) x:=by
  rw[List.take_add_one,h];simp[oD]
def j4 (p:Nat):List Nat->List Nat
  |[]=>[p]
  |b::l=>lJ ((j4 p l).headD 0) (base b)::j4 p l
theorem pg (p:Nat):∀l,(j4 p l).length=l.length+1
  |[]=>rfl
  |b::l=>by rw[j4,List.length_cons,pg p l,List.length_cons]
theorem Bb {l:List Nat}:l.headD 0=l.getD 0 0:=by cases l<;>rfl
def lF (seed:List Byte)(n:Nat):List Nat:=(List.range n).map fun i=>nM (tag pX [seed,[BitVec.ofNat 8 i]])
theorem Bc (seed:List Byte)(n:Nat):(lF seed n).length=n:=by simp[lF]
theorem wP (seed:List Byte)(n:Nat):lF seed (n+1)=lF seed n++[nM (tag pX [seed,[BitVec.ofNat 8 n]])]:=by simp[lF,List.range_succ]
theorem Na (p:Nat)(l:List Nat)(k:Nat)(hk:k<l.length):
    (List.replicate (l.length-k) 0++j4 p (l.drop (l.length-k))).set (l.length-1-k) (lJ ((List.replicate (l.length-k) 0++j4 p (l.drop (l.length-k))).getD (l.length-1-k+1) 0) (base (l.getD (l.length-1-k) 0)))=
      List.replicate (l.length-(k+1)) 0++j4 p (l.drop (l.length-(k+1))):=by
  have b:l.length-k=(l.length-(k+1))+1:=by omega
  have c:l.length-1-k=l.length-(k+1):=by omega
  have d:l.drop (l.length-(k+1))=l.getD (l.length-(k+1)) 0::l.drop (l.length-k):=by
    rw[List.drop_eq_getElem_cons (by omega),b]
    congr 1
    simp[List.getD,show l.length-(k+1)<l.length by omega]
  rw[d,j4,Bb,c]
  generalize j4 p (l.drop (l.length-k))=r
  rw[b,List.replicate_succ',List.append_assoc]
  have hr:(List.replicate (l.length-(k+1)) 0++([0]++r)).getD (l.length-(k+1)+1) 0=r.getD 0 0:=by
    rw[List.getD_eq_getElem?_getD,List.getElem?_append_right (by simp)]
    simp[List.getD]
  rw[hr,List.set_append_right _ _ (by simp)]
  simp
theorem getD_lt {l:List Nat}{b:Nat}(h:∀x∈l,x<b)(hb:0<b)(i:Nat):l.getD i 0<b:=by
  rw[List.getD_eq_getElem?_getD]
  cases e:l[i]? with
  |none=>exact hb
  |some x=>exact h x (List.mem_of_getElem? e)
end Go.wM

namespace Go.fO
open Go.wM
structure GQ where
  b:Int
  p:Int
  d:Int
  l:Int
  m:Int
deriving DecidableEq
structure Edge where
  f:Int
  t:Int
  c:Int
  r:Int
  jF:GQ
deriving DecidableEq
def Li:GQ:=⟨0,0,0,0,0⟩
def eO:Edge:=⟨0,0,0,0,Li⟩
def jv (n lo hi:Int):Bool:=decide (lo<=n/\n<=hi)
def nA (p:GQ):Bool:=jv p.b 0 1125899906842624&&jv p.l 0 p.m&&jv p.m 0 1125899906842624&&jv p.p 0 1000000&&jv p.d 0 1048576
def edgeOk (e:Edge):Bool:=jv e.f 0 11&&jv e.t 0 11&&decide (e.f≠e.t)&&jv e.c 0 39&&jv e.r 1 1125899906842624&&nA e.jF
def mH (a:Int):Bool:=jv a 0 1125899906842624
def jV (a b:Int):Int×Bool:=if mH a&&mH b&&decide (a<=1125899906842624-b)then(a+b,true)else(0,false)
def kS (a num:Int):Int×Bool:=if mH a&&decide (0<=num)&&decide (a*num/1000000<=1125899906842624)then(a*num/1000000,true)else(0,false)
def jf (p:GQ)(a:Int):Int×Bool:=if(kS a p.p).2&&nA p then jV p.b (kS a p.p).1 else(0,false)
def kg (a b:Int):Int:=if a<b then-1 else if b<a then 1 else 0
def tO (a b:Edge):Int:=if kg a.c b.c≠0 then kg a.c b.c else kg a.f b.f
def l6 (l:List Edge)(i:Nat):Prop:=
  edgeOk (l.getD i eO)=true/\(0<i->tO (l.getD (i-1) eO) (l.getD i eO)<0)/\
    ((0<i/\(l.getD (i-1) eO).c=(l.getD i eO).c)->¬(1<i/\(l.getD (i-2) eO).c=(l.getD i eO).c)/\(l.getD (i-1) eO).f=(l.getD i eO).t/\(l.getD (i-1) eO).t=(l.getD i eO).f/\(l.getD (i-1) eO).r=(l.getD i eO).r)
instance (l : List Edge) (i : Nat) : Decidable (l6 l i) := by unfold l6; infer_instance
def E9 (l:List Edge):Prop:=∀i,i<l.length->l6 l i
instance (l : List Edge) : Decidable (E9 l) := by unfold E9; infer_instance
def ko (l:List Edge):Bool:=decide (E9 l)
def vI (l:List Edge)(i:Nat):Prop:=edgeOk (l.getD i eO)=true/\(0<i->(l.getD (i-1) eO).t=(l.getD i eO).f)/\∀k,k<=i->(l.getD k eO).f≠(l.getD i eO).t
instance (l : List Edge) (i : Nat) : Decidable (vI l i) := by unfold vI; infer_instance
def OZ (l:List Edge):Prop:=(1<=l.length/\l.length<=8)/\∀i,i<l.length->vI l i
instance (l : List Edge) : Decidable (OZ l) := by unfold OZ; infer_instance
def nH (l:List Edge):Bool:=decide (OZ l)
def pY (e:Edge)(a x:Int):Option (Int×Int):=if(jf e.jF a).2&&(jV a (jf e.jF a).1).2 then some (a+(jf e.jF a).1,x+e.jF.d)else none
def jh (a x:Int):List Edge->Except Int (Option (Int×Int)×List (Int×Int))
  |[]=> .ok (some (a,x),[])
  |e::t=>match jh a x t with
    | .error er=> .error er
    | .ok (none,_)=> .error 6
    | .ok (some (a1,x1),l)=>if jv a1 e.jF.l (min e.jF.m e.r)=false then .error 6 else if 1048576<x1 then .error 16 else .ok (pY e a1 x1,(a1,x1)::l)
def fq (w:List Edge)(a x:Int):List Int×List Int×Int:=
  if nH w=false then([],[],19)else if jv a 1 1125899906842624=false\/jv x 1 1048576=false then([],[],1)
  else match jh a x w with
    | .error er=>([],[],er)
    | .ok (_,l)=>(l.map Prod.fst,l.map Prod.snd,0)
theorem jD {n lo hi:Int}(h:jv n lo hi=true):lo<=n/\n<=hi:=of_decide_eq_true h
theorem GU {n lo hi:Int}(h:jv n lo hi=false):¬(lo<=n/\n<=hi):=of_decide_eq_false h
theorem Ac {p:GQ}(h:nA p=true):(0<=p.b/\p.b<=1125899906842624)/\(0<=p.l/\p.l<=p.m)/\(0<=p.m/\p.m<=1125899906842624)/\(0<=p.p/\p.p<=1000000)/\0<=p.d/\p.d<=1048576:=by
  simp only[nA,Bool.and_eq_true]at h
  exact⟨jD h.1.1.1.1,jD h.1.1.1.2,jD h.1.1.2,jD h.1.2,jD h.2⟩
theorem lK {e:Edge}(h:edgeOk e=true):(0<=e.f/\e.f<=11)/\(0<=e.t/\e.t<=11)/\e.f≠e.t/\(0<=e.c/\e.c<=39)/\(1<=e.r/\e.r<=1125899906842624)/\nA e.jF=true:=by
  simp only[edgeOk,Bool.and_eq_true,decide_eq_true_eq]at h
  exact⟨jD h.1.1.1.1.1,jD h.1.1.1.1.2,h.1.1.1.2,jD h.1.1.2,jD h.1.2,h.2⟩
def Nb (p:GQ):Prop:=(-9223372036854775808<=p.b/\p.b<=9223372036854775807)/\(-9223372036854775808<=p.p/\p.p<=9223372036854775807)/\(-9223372036854775808<=p.d/\p.d<=9223372036854775807)/\(-9223372036854775808<=p.l/\p.l<=9223372036854775807)/\(-9223372036854775808<=p.m/\p.m<=9223372036854775807)
def O0 (e:Edge):Prop:=(-9223372036854775808<=e.f/\e.f<=9223372036854775807)/\(-9223372036854775808<=e.t/\e.t<=9223372036854775807)/\(-9223372036854775808<=e.c/\e.c<=9223372036854775807)/\(-9223372036854775808<=e.r/\e.r<=9223372036854775807)/\Nb e.jF
end Go.fO

namespace Go.fO
open Go.wM
variable {a x am ex er:Int}{l:List (Int×Int)}{xs:List Edge}{j:Nat}
theorem drop_pred (xs:List Edge)(j:Nat)(h0:0<j)(hj:j<=xs.length):xs.drop (j-1)=xs.getD (j-1) eO::xs.drop j:=by
  rw[List.drop_eq_getElem_cons (by omega),show j-1+1=j by omega]
  simp[List.getD,show j-1<xs.length by omega]
theorem uF:∀(xs:List Edge) (j:Nat),jh a x (xs.drop j)= .error er->jh a x xs= .error er
  |_,0,h=>h
  |[],j+1,h=>by simpa using h
  |e::xs,j+1,h=>by
    have:=uF xs j (by simpa using h)
    simp[jh,this]
theorem nZ (h0:0<j)(hj:j<=xs.length)(h:jh a x (xs.drop j)= .ok (some (am,ex),l))(h1:¬jv am (xs.getD (j-1) eO).jF.l (min (xs.getD (j-1) eO).jF.m (xs.getD (j-1) eO).r)=true):jh a x xs= .error 6:=by
  refine uF xs (j-1) ?_
  rw[drop_pred xs j h0 hj,jh,h]
  simp only[Bool.eq_false_iff.2 h1,if_true]
theorem vV (h0:0<j)(hj:j<=xs.length)(h:jh a x (xs.drop j)= .ok (some (am,ex),l))(h1:jv am (xs.getD (j-1) eO).jF.l (min (xs.getD (j-1) eO).jF.m (xs.getD (j-1) eO).r)=true)(h2:1048576<ex):jh a x xs= .error 16:=by
  refine uF xs (j-1) ?_
  rw[drop_pred xs j h0 hj,jh,h]
  simp[-List.getD_eq_getElem?_getD,h1,h2]
theorem mZ (h0:0<j)(hj:j<=xs.length)(h:jh a x (xs.drop j)= .ok (some (am,ex),l))(h1:jv am (xs.getD (j-1) eO).jF.l (min (xs.getD (j-1) eO).jF.m (xs.getD (j-1) eO).r)=true)(h2:¬1048576<ex):
    jh a x (xs.drop (j-1))= .ok (pY (xs.getD (j-1) eO) am ex,(am,ex)::l):=by
  rw[drop_pred xs j h0 hj,jh,h]
  simp[-List.getD_eq_getElem?_getD,h1,h2]
theorem p9 (h0:0<j)(hj:j<=xs.length)(h:jh a x (xs.drop j)= .ok (none,l)):jh a x xs= .error 6:=by
  refine uF xs (j-1) ?_
  rw[drop_pred xs j h0 hj,jh,h]
theorem qa {e:Edge}(h:¬(jf e.jF am).2=true\/¬(jV am (jf e.jF am).1).2=true):pY e am ex=none:=by
  unfold pY
  rw[if_neg]
  rw[Bool.and_eq_true]
  rintro⟨b,c⟩
  rcases h with h|h<;>contradiction
theorem Bd {a b:Int}(h:(jV a b).2=true):(jV a b).1=a+b/\0<=a+b/\a+b<=1125899906842624:=by
  unfold jV at*
  split at h
  · rename_i hc
    simp only[mH,Bool.and_eq_true,decide_eq_true_eq]at hc
    have c:=jD hc.1.1
    have d:=jD hc.1.2
    exact⟨by rw[if_pos (by simp[mH,hc])],by omega,by omega⟩
  · cases h
theorem vW {e:Edge}(h1:(jf e.jF am).2=true)(h2:(jV am (jf e.jF am).1).2=true):pY e am ex=some ((jV am (jf e.jF am).1).1,ex+e.jF.d):=by
  unfold pY
  rw[if_pos (by simp[h1,h2]),(Bd h2).1]
theorem yj {xs:List Edge}{a x:Int}(h:¬nH xs=true):fq xs a x=([],[],19):=by unfold fq;rw[if_pos (by simpa using h)]
theorem pK {xs:List Edge}{a x:Int}(h:nH xs=true)(h1:¬jv a 1 1125899906842624=true\/¬jv x 1 1048576=true):fq xs a x=([],[],1):=by
  unfold fq
  rw[if_neg (by simp[h]),if_pos (by simpa using h1)]
theorem kF {xs:List Edge}{a x er:Int}(h:nH xs=true)(h1:jv a 1 1125899906842624=true)(h2:jv x 1 1048576=true)(h3:jh a x xs= .error er):fq xs a x=([],[],er):=by
  unfold fq
  rw[if_neg (by simp[h]),if_neg (by simp[h1,h2]),h3]
theorem wQ {xs:List Edge}{a x:Int}{nx:Option (Int×Int)}{l:List (Int×Int)}(h:nH xs=true)(h1:jv a 1 1125899906842624=true)(h2:jv x 1 1048576=true)(h3:jh a x xs= .ok (nx,l)):fq xs a x=(l.map Prod.fst,l.map Prod.snd,0):=by
  unfold fq
  rw[if_neg (by simp[h]),if_neg (by simp[h1,h2]),h3]
theorem Af (l:List Int)(v:Int)(j:Nat)(h:0<j):(List.replicate j 0++l).set (j-1) v=List.replicate (j-1) 0++v::l:=by
  rw[List.set_append_left _ _ (by simp;omega)]
  obtain⟨k,rfl⟩:∃k,j=k+1:=⟨j-1,by omega⟩
  rw[Nat.add_sub_cancel,List.replicate_succ',List.set_append_right _ _ (by simp)]
  simp
theorem Lj {p:GQ}(h:nA p=true):Nb p:=by
  have:=Ac h
  refine⟨⟨?_,?_⟩,⟨?_,?_⟩,⟨?_,?_⟩,⟨?_,?_⟩,⟨?_,?_⟩⟩<;>omega
theorem D7:∀(w:List Edge) (n:Option (Int×Int)) (l:List (Int×Int)),jh a x w= .ok (n,l)->l.length=w.length
  |[],n,l,h=>by simp[jh]at h;rw[h.2];rfl
  |e::t,n,l,h=>by
    rw[jh]at h
    split at h
    · cases h
    · cases h
    · rename_i a1 x1 l1 heq
      have ih:=D7 t _ _ heq
      split at h
      · cases h
      · split at h
        · cases h
        · injection h with h
          injection h with _ h
          rw[<-h,List.length_cons,List.length_cons,ih]
theorem l7 {w:List Edge}{a x:Int}(h:(fq w a x).2.2=0):nH w=true/\jv a 1 1125899906842624=true/\jv x 1 1048576=true/\∃nx l,jh a x w= .ok (nx,l)/\fq w a x=(l.map Prod.fst,l.map Prod.snd,0)/\l.length=w.length:=by
  by_cases b:nH w=true
  · by_cases c:jv a 1 1125899906842624=true
    · by_cases d:jv x 1 1048576=true
      · refine⟨b,c,d,?_⟩
        cases hf:jh a x w with
        |error er=>
          have he:=kF b c d hf
          rw[he]at h
          have hne:∀(w:List Edge) (er:Int),jh a x w= .error er->er=6\/er=16:=by
            intro w
            induction w with
            |nil=>intro er h;simp[jh]at h
            |cons e t ih=>
              intro er h
              rw[jh]at h
              split at h
              · rename_i heq;injection h with h;exact ih er (by rw[heq,h])
              · injection h with h;exact .inl h.symm
              · split at h
                · injection h with h;exact .inl h.symm
                · split at h
                  · injection h with h;exact .inr h.symm
                  · cases h
          have:=hne w er hf
          simp at h
          omega
        |ok p=>obtain⟨nx,l⟩:=p;exact⟨nx,l,rfl,wQ b c d hf,D7 w nx l hf⟩
      · rw[pK b (.inr d)]at h;simp at h
    · rw[pK b (.inl c)]at h;simp at h
  · rw[yj b]at h;simp at h
theorem rU {w:List Edge}{a x:Int}(h:(fq w a x).2.2=0):(fq w a x).1.length=w.length/\(fq w a x).2.1.length=w.length:=by
  obtain⟨_,_,_,nx,l,_,b,c⟩:=l7 h
  rw[b];simp[c]
theorem nN {xs:List Edge}(h:nH xs=true){i:Nat}(hi:i<xs.length):vI xs i:=(of_decide_eq_true h:OZ xs).2 i hi
theorem kZ {xs:List Edge}(h:nH xs=true):1<=xs.length/\xs.length<=8:=(of_decide_eq_true h:OZ xs).1
end Go.fO
namespace Go.fO
end Go.fO
namespace Go.fO
variable {a x:Int}
theorem Be:∀(xs:List Edge) (nx:Option (Int×Int)) (l:List (Int×Int)),jh a x xs= .ok (nx,l)->
    (∀i,i<xs.length->jv (l.getD i (0,0)).1 (xs.getD i eO).jF.l (min (xs.getD i eO).jF.m (xs.getD i eO).r)=true/\¬1048576<(l.getD i (0,0)).2)/\
    (∀i,i+1<xs.length->pY (xs.getD (i+1) eO) (l.getD (i+1) (0,0)).1 (l.getD (i+1) (0,0)).2=some (l.getD i (0,0)))/\
    (0<xs.length->l.getD (xs.length-1) (0,0)=(a,x))/\nx=(if xs.length=0 then some (a,x)else pY (xs.getD 0 eO) (l.getD 0 (0,0)).1 (l.getD 0 (0,0)).2)
  |[],nx,l,h=>by
    simp[jh]at h
    obtain⟨rfl,rfl⟩:=h
    exact⟨fun i hi=>absurd hi (Nat.not_lt_zero _),fun i hi=>absurd hi (Nat.not_lt_zero _),fun h=>absurd h (Nat.lt_irrefl _),rfl⟩
  |e::t,nx,l,h=>by
    rw[jh]at h
    split at h
    · cases h
    · cases h
    · rename_i a1 x1 l1 heq
      obtain⟨c,d,f,b⟩:=Be t _ _ heq
      split at h
      · cases h
      · rename_i hin
        split at h
        · cases h
        · rename_i hx
          injection h with h
          injection h with hn hl
          subst hl
          refine⟨?_,?_,?_,?_⟩
          · intro i hi
            cases i with
            |zero=>exact⟨by simpa using hin,hx⟩
            |succ i=>have:=c i (by simpa using hi);simpa using this
          · intro i hi
            cases i with
            |zero=>
              have ht:0<t.length:=by simpa using hi
              rw[if_neg (by omega)]at b
              simp only[List.getD_cons_succ,List.getD_cons_zero]at*
              rw[<-b]
            |succ i=>have:=d i (by simpa using hi);simpa using this
          · intro _
            cases t with
            |nil=>simp at b;obtain⟨rfl,rfl⟩:=b;rfl
            |cons e2 t2=>have:=f (by simp);simpa using this
          · rw[if_neg (by simp)];exact hn.symm
theorem Nc {e:Edge}{am ex:Int}{p:Int×Int}(h:pY e am ex=some p):(jf e.jF am).2=true/\(jV am (jf e.jF am).1).2=true/\p=(am+(jf e.jF am).1,ex+e.jF.d):=by
  unfold pY at h
  split at h
  · rename_i hc
    rw[Bool.and_eq_true]at hc
    injection h with h
    exact⟨hc.1,hc.2,h.symm⟩
  · cases h
structure O1 (w:List Edge)(a x:Int)(S T:List Int):Prop where
  way:nH w=true
  vX:1<=a/\a<=1125899906842624
  exp:1<=x/\x<=1048576
  aae:S.length=w.length
  aaf:T.length=w.length
  len:1<=w.length/\w.length<=8
  room:∀i,i<w.length->((w.getD i eO).jF.l<=S.getD i 0/\S.getD i 0<=(w.getD i eO).jF.m/\S.getD i 0<=(w.getD i eO).r)/\T.getD i 0<=1048576
  aag:S.getD (w.length-1) 0=a
  GV:T.getD (w.length-1) 0=x
  step:∀i,i+1<w.length->(jf (w.getD (i+1) eO).jF (S.getD (i+1) 0)).2=true/\(jV (S.getD (i+1) 0) (jf (w.getD (i+1) eO).jF (S.getD (i+1) 0)).1).2=true/\S.getD i 0=S.getD (i+1) 0+(jf (w.getD (i+1) eO).jF (S.getD (i+1) 0)).1/\T.getD i 0=T.getD (i+1) 0+(w.getD (i+1) eO).jF.d
theorem GX {α β:Type}(f:α->β)(l:List α)(i:Nat)(z:α):(l.map f).getD i (f z)=f (l.getD i z):=by
  simp only[List.getD,List.getElem?_map]
  cases l[i]? <;>rfl
theorem Bf {w:List Edge}(h:(fq w a x).2.2=0):O1 w a x (fq w a x).1 (fq w a x).2.1:=by
  obtain⟨hw,ha,hx,nx,l,hF,hC,hl⟩:=l7 h
  obtain⟨k,m,e,n⟩:=Be w nx l hF
  have hwl:=kZ hw
  rw[hC]
  have b:∀i,(l.map Prod.fst).getD i 0=(l.getD i (0,0)).1:=fun i=>GX Prod.fst l i (0,0)
  have c:∀i,(l.map Prod.snd).getD i 0=(l.getD i (0,0)).2:=fun i=>GX Prod.snd l i (0,0)
  refine⟨hw,jD ha,jD hx,by simp[hl],by simp[hl],hwl,?_,?_,?_,?_⟩
  · intro i hi
    obtain⟨d,f⟩:=k i hi
    have:=jD d
    show(_<=(l.map Prod.fst).getD i 0/\(l.map Prod.fst).getD i 0<=_/\(l.map Prod.fst).getD i 0<=_)/\(l.map Prod.snd).getD i 0<=_
    rw[b,c]
    omega
  · show(l.map Prod.fst).getD _ 0=a
    rw[b,e (by omega)]
  · show(l.map Prod.snd).getD _ 0=x
    rw[c,e (by omega)]
  · intro i hi
    obtain⟨d,f,j⟩:=Nc (m i hi)
    show(jf _ ((l.map Prod.fst).getD _ 0)).2=true/\(jV ((l.map Prod.fst).getD _ 0) (jf _ ((l.map Prod.fst).getD _ 0)).1).2=true/\(l.map Prod.fst).getD _ 0=(l.map Prod.fst).getD _ 0+(jf _ ((l.map Prod.fst).getD _ 0)).1/\(l.map Prod.snd).getD _ 0=(l.map Prod.snd).getD _ 0+_
    rw[b,c,b,c]
    exact⟨d,f,by rw[j],by rw[j]⟩
theorem JS (p:GQ)(am:Int):0<=(jf p am).1/\(jf p am).1<=1125899906842624:=by
  unfold jf
  split
  · unfold jV
    split
    · rename_i hc
      simp only[mH,Bool.and_eq_true,decide_eq_true_eq]at hc
      have b:=jD hc.1.1
      have c:=jD hc.1.2
      show 0<=_+_/\_+_<=_
      omega
    · show(0:Int)<=0/\(0:Int)<=_
      omega
  · show(0:Int)<=0/\(0:Int)<=_
    omega
end Go.fO
namespace Go.fO
theorem lL (xs:List Edge)(k i:Nat):(xs.drop k).getD i eO=xs.getD (k+i) eO:=by simp[List.getD,List.getElem?_drop]
theorem getD_take' (xs:List Edge)(k i:Nat)(h:i<k):(xs.take k).getD i eO=xs.getD i eO:=by simp[List.getD,List.getElem?_take,h]
theorem O3 {xs:List Edge}{k:Nat}(h:nH xs=true)(hk:k<xs.length):nH (xs.drop k)=true:=by
  have hl:=kZ h
  refine decide_eq_true ⟨by rw[List.length_drop];omega,fun i hi=>?_⟩
  rw[List.length_drop]at hi
  obtain⟨b,c,d⟩:=nN h (i:=k+i) (by omega)
  refine⟨by rw[lL];exact b,fun e=>?_,fun q hq=>?_⟩
  · rw[lL,lL,show k+(i-1)=k+i-1 by omega];exact c (by omega)
  · rw[lL,lL];exact d (k+q) (by omega)
theorem O4 {xs:List Edge}{k:Nat}(h:nH xs=true)(hk:k<xs.length):nH (xs.take (k+1))=true:=by
  have hl:=kZ h
  refine decide_eq_true ⟨by rw[List.length_take];omega,fun i hi=>?_⟩
  rw[List.length_take]at hi
  obtain⟨b,c,d⟩:=nN h (i:=i) (by omega)
  refine⟨by rw[getD_take' _ _ _ (by omega)];exact b,fun e=>?_,fun q hq=>?_⟩
  · rw[getD_take' _ _ _ (by omega),getD_take' _ _ _ (by omega)];exact c e
  · rw[getD_take' _ _ _ (by omega),getD_take' _ _ _ (by omega)];exact d q hq
theorem wR {xs:List Edge}(h:nH xs=true){i j:Nat}(hji:j<i)(hi:i<xs.length):(xs.getD j eO).f≠(xs.getD i eO).f/\(xs.getD j eO).t≠(xs.getD i eO).t/\(xs.getD j eO).f≠(xs.getD i eO).t:=by
  have hf:∀i,0<i->i<xs.length->(xs.getD (i-1) eO).t=(xs.getD i eO).f:=fun i c hi=>(nN h hi).2.1 c
  have hn:∀i k,i<xs.length->k<=i->(xs.getD k eO).f≠(xs.getD i eO).t:=fun i k hi hk=>(nN h hi).2.2 k hk
  refine⟨fun he=>?_,fun he=>?_,hn i j hi (by omega)⟩
  · have b:=hf i (by omega) hi
    exact hn (i-1) j (by omega) (by omega) (by rw[he,b])
  · have b:=hf (j+1) (by omega) (by omega)
    rw[show j+1-1=j by omega]at b
    exact hn i (j+1) hi (by omega) (by rw[<-b,he])
variable {a x:Int}
theorem Bg:∀(xs:List Edge) (k:Nat) (nx:Option (Int×Int)) (l:List (Int×Int)),jh a x xs= .ok (nx,l)->∃n2,jh a x (xs.drop k)= .ok (n2,l.drop k)
  |xs,0,nx,l,h=>⟨nx,h⟩
  |[],k+1,nx,l,h=>by
    have:l=[]:=by simp[jh]at h;exact h.2
    subst this
    exact⟨nx,by simpa using h⟩
  |e::t,k+1,nx,l,h=>by
    rw[jh]at h
    split at h
    · cases h
    · cases h
    · rename_i a1 x1 l1 heq
      split at h
      · cases h
      · split at h
        · cases h
        · injection h with h
          injection h with _ hl
          subst hl
          simpa using Bg t k _ _ heq
theorem JU {w:List Edge}(h:(fq w a x).2.2=0){k:Nat}(hk:k<w.length):fq (w.drop k) a x=((fq w a x).1.drop k,(fq w a x).2.1.drop k,0):=by
  obtain⟨hw,ha,hx,nx,l,hF,hC,hl⟩:=l7 h
  obtain⟨c,b⟩:=Bg w k nx l hF
  rw[wQ (O3 hw hk) ha hx b,hC]
  simp[List.map_drop]
theorem O1.ge {w:List Edge}{S T:List Int}(h:O1 w a x S T):∀d i,i+d+1=w.length->a<=S.getD i 0/\x<=T.getD i 0:=by
  intro d
  induction d with
  |zero=>intro i hi;have b:=h.aag;have c:=h.GV;rw[show w.length-1=i by omega]at b c;omega
  |succ d ih=>
    intro i hi
    have b:=ih (i+1) (by omega)
    obtain⟨e,f,j,k⟩:=h.step i (by omega)
    have hf:=JS (w.getD (i+1) eO).jF (S.getD (i+1) 0)
    have hok:=lK (nN h.way (i:=i+1) (by omega)).1
    have hp:=Ac hok.2.2.2.2.2
    omega
end Go.fO
namespace Go.fO
open Go.wM Go.Num
end Go.fO

namespace Go.wM
open Go.wK Go.Num
def wS:List Byte:=[112,97,114,116]
def lM:List Byte:=[115,112,108,105,116]
def D8 (m i:Nat):Nat:=nM (tag wS [wL m,[BitVec.ofNat 8 i]])
def mi (s k:Nat):List Nat:=(List.range k).map (D8 (jO 0 s))
def jg (s:Nat)(n:Int):List Nat:=if n<1\/8<n then[]else mi s (n.toNat-1)++[jO s (wO (oD (mi s (n.toNat-1))))]
theorem yl (s k:Nat):(mi s k).length=k:=by simp[mi]
theorem Bh (s k:Nat):mi s (k+1)=mi s k++[D8 (jO 0 s) k]:=by simp[mi,List.range_succ]
theorem O5 (s k:Nat):∀t∈mi s k,t<q:=fun t ht=>by
  obtain⟨i,_,rfl⟩:=List.mem_map.1 ht
  exact OX _
theorem rV {s:Nat}{n:Int}(h1:1<=n)(h8:n<=8):(jg s n).length=n.toNat:=by
  unfold jg
  rw[if_neg (by omega),List.length_append,yl]
  show n.toNat-1+1=n.toNat
  omega
theorem lN {s:Nat}{n:Int}(h:n<1\/8<n):jg s n=[]:=by unfold jg;rw[if_pos h]
theorem ym (s:Nat)(n:Int):(jg s n).length<=8:=by
  by_cases h:n<1\/8<n
  · rw[lN h];exact Nat.zero_le _
  · rw[rV (by omega) (by omega)];omega
theorem vJ (s n:Nat):(jg s (n:Int)).length<=n:=by
  by_cases h:(n:Int)<1\/8<(n:Int)
  · rw[lN h];exact Nat.zero_le _
  · rw[rV (by omega) (by omega)];omega
theorem Nf (s:Nat)(n:Int):∀t∈jg s n,t<q:=fun t ht=>by
  unfold jg at ht
  split at ht
  · cases ht
  · rcases List.mem_append.1 ht with h|h
    · exact O5 _ _ t h
    · rw[List.mem_singleton.1 h];exact Su _ _
structure O6 where
  pts:List Nat
  bl:List Nat
def q9:O6:=⟨[],[]⟩
def Ls (seed:List Byte)(i:Nat):List Byte:=tag lM [seed,[BitVec.ofNat 8 i]]
def qR (t n:Nat):Prop:=base t≠1/\1<=n/\n<=8
def mI (t:Nat)(sd:List Byte)(n:Nat):O6:=⟨j4 (base t) (lF sd (n-1)),lF sd (n-1)⟩
def tQ (s:Nat)(seed:List Byte)(ns:List Nat)(i:Nat):O6:=mI ((jg s ns.length).getD i 0) (Ls seed i) (ns.getD i 0)
def tT (s:Nat)(seed:List Byte)(ns:List Nat)(k:Nat):List O6:=(List.range k).map (tQ s seed ns)
instance (t n : Nat) : Decidable (qR t n) := by unfold qR; infer_instance
def mJ (s:Nat)(ns:List Nat):Prop:=∀i,i<(jg s ns.length).length->qR ((jg s ns.length).getD i 0) (ns.getD i 0)
instance (s : Nat) (ns : List Nat) : Decidable (mJ s ns) := by unfold mJ; infer_instance
def lQ (s:Nat)(seed:List Byte)(ns:List Nat):List O6:=if mJ s ns then tT s seed ns (jg s ns.length).length else[]
theorem uG (s:Nat)(seed:List Byte)(ns:List Nat)(k:Nat):(tT s seed ns k).length=k:=by simp[tT]
theorem Bi (s:Nat)(seed:List Byte)(ns:List Nat)(k:Nat):tT s seed ns (k+1)=tT s seed ns k++[tQ s seed ns k]:=by simp[tT,List.range_succ]
theorem O7 (s:Nat)(seed:List Byte)(ns:List Nat){k i:Nat}(h:i<k):(tT s seed ns k).getD i q9=tQ s seed ns i:=by simp[tT,List.getD,h]
theorem og {s:Nat}{seed:List Byte}{ns:List Nat}(h:mJ s ns):lQ s seed ns=tT s seed ns (jg s ns.length).length:=if_pos h
theorem yn {s:Nat}{seed:List Byte}{ns:List Nat}(h:¬mJ s ns):lQ s seed ns=[]:=if_neg h
theorem JV {s:Nat}{seed:List Byte}{ns:List Nat}:(lQ s seed ns).length<=8:=by
  unfold lQ
  split
  · rw[uG];exact ym _ _
  · exact Nat.zero_le _
theorem D9 (t:Nat)(sd:List Byte){n:Nat}(h:1<=n):(mI t sd n).pts.length=n/\(mI t sd n).bl.length=n-1:=by
  unfold mI
  simp only
  rw[pg,Bc]
  omega
theorem O8 {α:Type}(l:List α)(z v:α)(n k:Nat)(hl:l.length=k)(hk:k<n):(l++List.replicate (n-k) z).set k v=(l++[v])++List.replicate (n-(k+1)) z:=by
  subst hl
  rw[List.set_append_right _ _ (Nat.le_refl _),Nat.sub_self,show n-l.length=(n-(l.length+1))+1 by omega,List.replicate_succ,List.set_cons_zero,List.append_assoc]
  rfl
end Go.wM

namespace Go.wM
open Go.wK Go.Num
theorem Ng {t:Nat}{l:List Nat}{k:Nat}(h:k<l.length):(l.take (k+1)).foldl jO t=jO ((l.take k).foldl jO t) (l.getD k 0):=by
  rw[List.take_add_one,List.foldl_append]
  simp[List.getD,h]
theorem JW {p:Nat}(b c:Nat):lJ (lJ p (base b)) (base c)=lJ (lJ p (base c)) (base b):=by
  have h:∀x y z:Nat,lJ (lJ x y) z=taken x*taken y*taken z%M:=fun x y z=>by
    show taken (lJ x y)*taken z%M=_
    rw[GK (JP x y)]
    show taken x*taken y%M*taken z%M=_
    rw[Nat.mod_mul_mod]
  rw[h,h,Nat.mul_right_comm]
theorem Ea (p b:Nat):∀l:List Nat,l.foldl (fun p b=>lJ p (base b)) (lJ p (base b))=lJ (l.foldl (fun p b=>lJ p (base b)) p) (base b)
  |[]=>rfl
  |c::l=>by rw[List.foldl_cons,List.foldl_cons,JW,Ea _ b l]
theorem Bj (p:Nat):∀l:List Nat,(j4 p l).getD 0 0=l.foldl (fun p b=>lJ p (base b)) p
  |[]=>rfl
  |b::l=>by
    rw[j4,Bb,List.foldl_cons,Ea,<-Bj p l]
    rfl
theorem Bl (p:Nat):∀(l:List Nat) (i:Nat),i<=l.length->(j4 p l).getD i 0=(l.drop i).foldl (fun p b=>lJ p (base b)) p
  |l,0,_=>Bj p l
  |[],i+1,h=>by simp at h
  |b::l,i+1,h=>by
    have:=Bl p l i (by simpa using h)
    rw[j4]
    simpa using this
theorem JX {p:Nat}{l:List Nat}{i k:Nat}(hik:i<=k)(h:k<l.length):((l.take (k+1)).drop i).foldl (fun p b=>lJ p (base b)) p=lJ (((l.take k).drop i).foldl (fun p b=>lJ p (base b)) p) (base (l.getD k 0)):=by
  rw[List.take_add_one,List.drop_append_of_le_length (by rw[List.length_take];omega),List.foldl_append]
  simp[List.getD,h]
theorem Nh {p:Nat}{l:List Nat}{k:Nat}(h:k<(j4 p l).length):(j4 p l).take (k+1)=(j4 p l).take k++[(j4 p l).getD k 0]:=by
  rw[List.take_add_one];simp[List.getD,h]
end Go.wM

namespace Go.wK
theorem Ni (a b c:Word):a&&&b^^^ ~~~a&&&c=c^^^a&&&(b^^^c):=by
  apply BitVec.eq_of_getLsbD_eq
  intro i hi
  simp only[BitVec.getLsbD_xor,BitVec.getLsbD_and,BitVec.getLsbD_not,hi,decide_true,Bool.true_and]
  cases a.getLsbD i<;>cases b.getLsbD i<;>cases c.getLsbD i<;>rfl
theorem Sv (a b c:Word):a&&&b^^^a&&&c^^^b&&&c=a&&&b|||c&&&(a|||b):=by
  apply BitVec.eq_of_getLsbD_eq
  intro i hi
  simp only[BitVec.getLsbD_xor,BitVec.getLsbD_and,BitVec.getLsbD_or]
  cases a.getLsbD i<;>cases b.getLsbD i<;>cases c.getLsbD i<;>rfl
theorem O9 (x:Word)(k:Nat):x>>>k|||x<<<(32-k)=Ld x k:=by rw[Ld,BitVec.or_comm]
theorem Nj (b:List Byte)(k:Nat):Sd (b.drop k)=(b.getD k 0).setWidth 32<<<24|||(b.getD (k+1) 0).setWidth 32<<<16|||(b.getD (k+2) 0).setWidth 32<<<8|||(b.getD (k+3) 0).setWidth 32:=by
  simp only[Sd,List.getD_eq_getElem?_getD,List.getElem?_drop,Nat.add_zero]
def wT (b:List Byte):List Byte:=b++[128]++List.replicate (noughts b.length) 0++wL (8*b.length)
theorem GY (b:List Byte):(wT b).length=b.length+1+noughts b.length+8:=by simp[wT,iA];omega
theorem Pb (b:List Byte):(wT b).length%64=0:=by rw[GY,noughts];omega
theorem qU:∀(m:Nat) (h:List Word) (p t:List Byte),p.length=64*m->jG h (p++t)=jG (jG h p) t
  |0,h,p,t,hp=>by
    have:p=[]:=List.eq_nil_of_length_eq_zero (by omega)
    subst this
    rw[pW h [] (by simp)];rfl
  |m+1,h,p,t,hp=>by
    rw[oC h (p++t) (by simp;omega),oC h p (by omega),List.take_append_of_le_length (by omega),List.drop_append_of_le_length (by omega)]
    exact qU m _ _ t (by simp;omega)
theorem GZ (m:Nat)(h:List Word)(p t:List Byte)(hp:p.length=64*m)(ht:t.length<64):jG h (p++t)=jG h p:=by
  rw[qU m h p t hp,pW _ t ht]
theorem Sw (b:List Byte):sum b=digest (jG first (wT b)):=by
  have hb:b=b.take (b.length-b.length%64)++b.drop (b.length-b.length%64):=(List.take_append_drop _ _).symm
  have hl:(b.take (b.length-b.length%64)).length=64*(b.length/64):=by rw[List.length_take];omega
  have c:jG first b=jG first (b.take (b.length-b.length%64)):=by
    conv=>lhs;rw[hb]
    exact GZ _ _ _ _ hl (by rw[List.length_drop];omega)
  have d:wT b=b.take (b.length-b.length%64)++tail b:=by
    unfold wT tail
    rw[<-List.append_assoc,<-List.append_assoc,<-List.append_assoc,List.take_append_drop]
  rw[sum,c,d,qU _ _ _ _ hl]
end Go.wK

