/- LedgerSides: for every input the law answers true and leaves its arguments as they were. -/
import Derived.Test.YtkpmaajniagncaaGreatDoorLedgerSidesE
import Derived.Lib.ConvBytes
set_option linter.unusedVariables false
set_option linter.unusedSimpArgs false
namespace Go.Sx
open Go
section
variable {P:Program}{env:Env}{n:Nat}{d:Option Nat}{T:TypeId}{p:String}{af:Array Edge}{g:Option (Nat×Bool)}{w:World}{K:Value->World->Prop}{t:TypeId}{x:Operand}
theorem Any.aeM {a:BitVec 32}(hx:ev env x=some (jL a)):Any P env n ⟨d,.unOp .xor t x,T,p,af,g⟩ (jL (~~~a)):=fun ac ha w=>by
 have h:IntKind.u32.wrap ((BitVec.allOnes 32^^^a).toNat:Int)=((~~~a).toNat:Int):=by rw[BitVec.allOnes_xor,wrap_u32];have:=(~~~a).isLt;omega
 have hr:(Op.unary .xor (jL a)).run P w= .ok (jL (~~~a)) w:=by
  simp only[jL,Op.unary]
  rw[if_neg (by decide),show IntKind.u32.max=((BitVec.allOnes 32).toNat:Int)from by decide]
  simp only[Op.intBits,IntKind.bits,tN]
  exact congrArg (fun i=>Result.ok (Value.int .u32 i) w) h
 simp[execOp,ha.eval hx,hr]
theorem Ef.VY {t' e:TypeId}{s:ByteArray}{u:TypeDesc}(ht:P.underlying t=some u)(hd:P.underlying t'=some (.slice e))(he:P.underlying e=some (.int .u8))(hx:ev env x=some (.string s))
  (h:∀A c w',Sl w' 1 A s.size (byteCells s)->s.size<=c->Le w w'->K (.slice A s.size c) w'):Ef P env n ⟨d,.convert t t' x,T,p,af,g⟩ w K:=by
 refine .of_run (v:= .slice (some ⟨w.heap.size,0,none⟩) s.size (grownCap w s.size 0 e)) (w':=Lib.bytesWorld w e s) (fun a ha=>?_) (h _ _ _ ?_ ?_ ?_)
 ·simp[execOp,ha.eval hx,Lib.run_convert_string_bytes w t t' e s ht hd he]
 ·refine⟨by rw[byteCells_length];omega,fun j v hv=>⟨_,rfl,?_⟩⟩
  have hj:j<s.size:=by have:=(List.getElem?_eq_some_iff.1 hv).1;rwa [byteCells_length]at this
  rw[add_lit,Nat.zero_add,Lib.bytesWorld_cell w e s j hj,<-hv]
  simp[byteCells,List.getD,hj]
 ·exact grownCap_ge w s.size 0 e
 ·exact⟨rfl,rfl,rfl,by rw[Lib.bytesWorld_size];omega,fun k hk=>Lib.bytesWorld_at_old w e s k hk⟩
end
open Go.RowKit
section
variable {P:Program}{ops:Array Oper}{Q:Exit->Act->World->Prop}{n:Nat}
inductive Tr
 |nil
 |op (need:Bool) (i:Nat) (t:Tr)
 |br (t u:Tr)
def Tr.size:Tr->Nat
 | .nil=>0
 | .op _ _ t=>t.size+1
 | .br t _=>t.size
def app (ops:Array Oper):List Nat->Tr->Tr
 |[],t=>t
 |i::rest,t=> .op (nS ops i||rest.any (nS ops)) i (app ops rest t)
def Tq (P:Program)(ops:Array Oper)(Q:Exit->Act->World->Prop):Tr->Act->World->Prop
 | .nil,a,w=>Q .normal a w
 | .op need i t,a,w=>∃o,ops[i]? =some o/\
  if kd o.op=2 then wpOp P ops Z4 i (fun a' w'=>(need=true->Le w w')/\Tq P ops Q t a' w') a w
  else∃v,YieldsIf P ops (fun w'=>kd o.op=1->Le w w') o v a/\Tq P ops Q t (a.put o.dst v) w
 | .br t u,a,w=>Tq P ops Q t a w/\Tq P ops Q u a w
def MU (ops:Array Oper)(need:Bool)(i:Nat)(listed:Array Bool):Bool:=k2 ops i&&(!nS ops i||need)&&(need||still ops (listed.setIfInBounds i true))
def yj (ops:Array Oper):Tr->Array Bool->Bool
 | .nil,listed=>(Region.ready .any ops listed).isEmpty
 | .op need i t,listed=>(if k2 ops i then(Region.ready .any ops listed==[i])&&MU ops need i listed else(Region.ready .any ops listed).contains i&&Region.free .any ops listed i)&&yj ops t (listed.setIfInBounds i true)
 | .br (.op n i t) (.op m j u),listed=>Region.ready .any ops listed==[i,j]&&MU ops n i listed&&MU ops m j listed&&t.size==u.size&&yj ops t (listed.setIfInBounds i true)&&yj ops u (listed.setIfInBounds j true)
 | .br _ _,_=>false
variable {t:Tr}{w:World}
theorem Px {need:Bool}{i:Nat}{listed:Array Bool}{a:Act}(ih:∀a' w',Tq P ops Q t a' w'->l9 P ops (pQ Q) (Le w') t.size (listed.setIfInBounds i true) a' w')
  (he:MU ops need i listed=true)(h:Tq P ops Q (.op need i t) a w):
  wpOp P ops (pQ Q) i (fun a' w'=>Ob ops (Le w) i w w'/\l9 P ops (pQ Q) (Le w) t.size (listed.setIfInBounds i true) a' w') a w:=by
 simp only[MU,Bool.and_eq_true,Bool.or_eq_true,Bool.not_eq_true']at he
 obtain⟨⟨c,hn⟩,hst⟩:=he
 obtain⟨o,ho,h⟩:=h
 have hk:kd o.op=2:=by unfold k2 at c;rw[ho]at c;simpa using c
 rw[if_pos hk]at h
 refine wpOp_mono (fun a' w' h'=>⟨?_,?_⟩) (wL h)
 ·unfold Ob
  rw[if_pos c]
  intro hs
  rcases hn with hn|hn
  ·rw[hn]at hs;cases hs
  ·exact h'.1 hn
 ·have:=ih a' w' h'.2
  rcases hst with hst|hst
  ·exact vI (fun _ hw=>(h'.1 hst).trans hw) _ _ _ _ this
  ·exact xH _ _ _ _ hst this
theorem BP (hs:Region.noSelect ops=true):∀(t:Tr) (listed:Array Bool) (a:Act) (w:World),
  Cl ops listed->yj ops t listed=true->Tq P ops Q t a w->l9 P ops (pQ Q) (Le w) t.size listed a w
 | .nil,listed,a,w,_,hp,h=>⟨by simpa[yj]using hp,rfl,h⟩
 | .op need i t,listed,a,w,hcl,hp,h=>by
  simp only[yj,Bool.and_eq_true]at hp
  obtain⟨hp1,hp2⟩:=hp
  by_cases c:k2 ops i=true
  ·rw[if_pos c,Bool.and_eq_true,beq_iff_eq]at hp1
   obtain⟨hr,he⟩:=hp1
   refine⟨fun d=>(by rw[hr]at d;cases d),fun j hj=>?_⟩
   rw[hr]at hj
   obtain rfl:j=i:=by simpa using hj
   exact Px (fun a' w' h'=>BP hs t _ a' w' (hcl.set (by rw[hr];simp)) hp2 h') he h
  ·rw[if_neg c]at hp1
   simp only[Bool.and_eq_true]at hp1
   obtain⟨o,ho,h⟩:=h
   have hk:¬kd o.op=2:=by unfold k2 at c;rw[ho]at c;simpa using c
   rw[if_neg hk]at h
   obtain⟨v,hy,h⟩:=h
   have hi:i∈Region.ready .any ops listed:=by simpa using hp1.1
   exact oC ho (Region.noSelect_spec hs) (fun _ _ _ hf=>by cases hf.1) hk _ listed a w hcl (Region.free_spec ho hp1.2) hi hy (fun _=>Le.refl w) (BP hs t _ _ _ (hcl.set hi) hp2 h)
 | .br (.op n i t) (.op m j u),listed,a,w,hcl,hp,h=>by
  simp only[yj,Bool.and_eq_true,beq_iff_eq]at hp
  obtain⟨⟨⟨⟨⟨hr,e⟩,f⟩,hsz⟩,hp1⟩,hp2⟩:=hp
  refine⟨fun d=>(by rw[hr]at d;cases d),fun k hk=>?_⟩
  rw[hr]at hk
  simp only[List.mem_cons,List.not_mem_nil,or_false]at hk
  rcases hk with rfl|rfl
  ·exact Px (fun a' w' h'=>BP hs t _ a' w' (hcl.set (by rw[hr];simp)) hp1 h') e h.1
  ·show wpOp P ops (pQ Q) k (fun a' w'=>Ob ops (Le w) k w w'/\l9 P ops (pQ Q) (Le w) t.size (listed.setIfInBounds k true) a' w') a w
   rw[hsz]
   exact Px (fun a' w' h'=>BP hs u _ a' w' (hcl.set (by rw[hr];simp)) hp2 h') f h.2
 | .br .nil _,_,_,_,_,hp,_=>by simp[yj]at hp
 | .br (.br _ _) _,_,_,_,_,hp,_=>by simp[yj]at hp
 | .br (.op _ _ _) .nil,_,_,_,_,hp,_=>by simp[yj]at hp
 | .br (.op _ _ _) (.br _ _),_,_,_,_,hp,_=>by simp[yj]at hp
def QX (ops:Array Oper)(t:Tr):Bool:=t.size==ops.size&&Region.noSelect ops&&yj ops t (Array.replicate ops.size false)
def GT (P:Program)(ops:Array Oper)(Q:Exit->Act->World->Prop)(n:Nat)(t:Tr)(env:Env)(w:World):Prop:=∀a,sM a n env->Tq P ops Q t a w
theorem FY:∀(L:List Nat) (a:Act) (w:World),Z5 P ops (fun _ a w=>Tq P ops Q t a w) L a w->Tq P ops Q (app ops L t) a w
 |[],_,_,h=>h
 |i::rest,a,w,h=>by
  obtain⟨o,ho,h⟩:=h
  refine⟨o,ho,?_⟩
  split
  ·rename_i hk
   rw[if_pos hk]at h
   exact wpOp_mono (fun a' w' h'=>⟨h'.1,FY rest a' w' h'.2⟩) h
  ·rename_i hk
   rw[if_neg hk]at h
   obtain⟨v,hy,h⟩:=h
   exact⟨v,hy,FY rest _ _ h⟩
variable {L:List Nat}{env:Env}
theorem GT.app (h:G P ops (fun _ a w=>Tq P ops Q t a w) n L env w):GT P ops Q n (Sx.app ops L t) env w:=fun a ha=>FY L a w (h a ha)
theorem GT.br {u:Tr}(h1:GT P ops Q n t env w)(h2:GT P ops Q n u env w):E (fun _ a w=>Tq P ops Q (.br t u) a w) n .normal env w:=fun a ha=>⟨h1 a ha,h2 a ha⟩
theorem GY:∀(L:List Nat) (a:Act) (w:World),Z5 P ops Q L a w->Z5 P ops (fun _ a w=>Tq P ops Q .nil a w) L a w
 |[],_,_,h=>h
 |i::rest,a,w,h=>by
  obtain⟨o,ho,h⟩:=h
  refine⟨o,ho,?_⟩
  split
  ·rename_i hk
   rw[if_pos hk]at h
   exact wpOp_mono (fun a' w' h'=>⟨h'.1,GY rest a' w' h'.2⟩) h
  ·rename_i hk
   rw[if_neg hk]at h
   obtain⟨v,hy,h⟩:=h
   exact⟨v,hy,GY rest _ _ h⟩
theorem GT.last (h:G P ops Q n L env w):GT P ops Q n (Sx.app ops L .nil) env w:=fun a ha=>FY L a w (GY L a w (h a ha))
theorem WC.JC {id:Nat}(t:Array Oper->Tr)(hm:P.follows .mixedOrders=true)(hp:QX ops (t ops)=true)
  (h:∀w',Le w w'->GT P ops Q n (t ops) env w'):WC P Q n (.region id ops true) env w:=fun a ha=>by
 simp only[QX,Bool.and_eq_true,beq_iff_eq]at hp
 obtain⟨⟨hl,hs⟩,hp⟩:=hp
 have:=BP hs (t ops) _ a _ (Cl.none _) hp (h _ (Le.drew w) a ha)
 rw[hl]at this
 refine wp_mono (wp_region_any hm (pO _ _ _ _ this)) ?_
 rintro e a w ⟨rfl,hq⟩
 exact hq
end
section
variable {P:Program}{env:Env}{n:Nat}{d:Option Nat}{T:TypeId}{p:String}{af:Array Edge}{g:Option (Nat×Bool)}{w:World}{o:Oper}{v v':Value}
theorem Any.as (h:Any P env n o v)(e:v=v'):Any P env n o v':=e▸h
theorem Rd.as (h:Rd P w env n o v)(e:v=v'):Rd P w env n o v':=e▸h
theorem xK (a:Nat):IntKind.u64.wrap (a:Int)=((a%18446744073709551616:Nat):Int):=by rw[wrap_u64];omega
variable {t ty:TypeId}{x y:Operand}{i j:Int}
theorem Any.addN (a b c:Nat)(hx:ev env x=some (.int .u64 i))(hi:i=(a:Int))(hy:ev env y=some (.int .u64 j))(hj:j=(b:Int))(h:(a+b)%18446744073709551616=c):
  Any P env n ⟨d,.binOp .add t x y ty,T,p,af,g⟩ (.int .u64 (c:Int)):= .int hx hy fun w=>by
 subst hi hj h
 have e:IntKind.u64.wrap ((a:Int)+(b:Int))=(((a+b)%18446744073709551616:Nat):Int):=by rw[<-Int.natCast_add,xK]
 simp only[binOp,Op.intArith,e];rfl
theorem Any.mulN (a b c:Nat)(hx:ev env x=some (.int .u64 i))(hi:i=(a:Int))(hy:ev env y=some (.int .u64 j))(hj:j=(b:Int))(h:(a*b)%18446744073709551616=c):
  Any P env n ⟨d,.binOp .mul t x y ty,T,p,af,g⟩ (.int .u64 (c:Int)):= .int hx hy fun w=>by
 subst hi hj h
 have e:IntKind.u64.wrap ((a:Int)*(b:Int))=(((a*b)%18446744073709551616:Nat):Int):=by rw[<-Int.natCast_mul,xK]
 simp only[binOp,Op.intArith,e];rfl
theorem Any.KW (a b c:Nat)(hx:ev env x=some (.int .u64 i))(hi:i=(a:Int))(hy:ev env y=some (.int .u64 j))(hj:j=(b:Int))(hb:b<=18446744073709551616)(h:(a+(18446744073709551616-b))%18446744073709551616=c):
  Any P env n ⟨d,.binOp .sub t x y ty,T,p,af,g⟩ (.int .u64 (c:Int)):= .int hx hy fun w=>by
 subst hi hj h
 have e:IntKind.u64.wrap ((a:Int)-(b:Int))=(((a+(18446744073709551616-b))%18446744073709551616:Nat):Int):=by rw[wrap_u64];omega
 simp only[binOp,Op.intArith,e];rfl
theorem Any.Py (a b c:Nat)(hx:ev env x=some (.int .u64 i))(hi:i=(a:Int))(hy:ev env y=some (.int .u64 j))(hj:j=(b:Int))(ha:a<18446744073709551616)(hb:0<b)(h:a/b=c):
  Any P env n ⟨d,.binOp .quo t x y ty,T,p,af,g⟩ (.int .u64 (c:Int)):=by
 subst hi hj h
 exact(Any.ahc hx hy (by omega)).as (by rw[Int.natCast_ediv])
theorem Any.BQ (a b c:Nat)(hx:ev env x=some (.int .u64 i))(hi:i=(a:Int))(hy:ev env y=some (.int .u64 j))(hj:j=(b:Int))(hb:0<b)(h:a%b=c):
  Any P env n ⟨d,.binOp .rem t x y ty,T,p,af,g⟩ (.int .u64 (c:Int)):=by
 subst hi hj h
 exact(Any.ahd hx hy (by omega)).as (by rw[Int.natCast_emod])
variable {k':IntKind}
theorem Any.Z9 (a m c:Nat)(hx:ev env x=some (.int .u64 i))(hi:i=(a:Int))(hy:ev env y=some (.int k' j))(hj:j=(m:Int))(hm:m<=64)(h:(a*2^m)%18446744073709551616=c):
  Any P env n ⟨d,.binOp .shl t x y ty,T,p,af,g⟩ (.int .u64 (c:Int)):= .int hx hy fun w=>by
 subst hi hj h
 have f:¬((m:Int)<0):=by omega
 have k:min m IntKind.u64.bits=m:=Nat.min_eq_left hm
 have e:IntKind.u64.wrap ((a:Int)*2^m)=(((a*2^m)%18446744073709551616:Nat):Int):=by
  rw[<-xK,Int.natCast_mul,Int.natCast_pow];rfl
 simp only[binOp,Op.shift]
 rw[if_neg f]
 simp only[Int.toNat_natCast,k,e]
 rfl
variable {k:IntKind}
theorem Any.wO (a m c:Nat)(hx:ev env x=some (.int k i))(ha:i=(a:Int))(hy:ev env y=some (.int k' j))(hj:j=(m:Int))(hm:m<=k.bits)(h:a/2^m=c):
  Any P env n ⟨d,.binOp .shr t x y ty,T,p,af,g⟩ (.int k (c:Int)):=
 (Any.Pw a m hx ha hy hj hm).as (by rw[Nat.shiftRight_eq_div_pow,h])
theorem mask32 (a:Nat):a&&&4294967295=a%4294967296:=Nat.and_two_pow_sub_one_eq_mod a 32
theorem VZ (a:Nat):a&&&1=a%2:=Nat.and_two_pow_sub_one_eq_mod a 1
theorem Any.MV (a b c:Nat)(hx:ev env x=some (.int .u64 i))(hi:i=(a:Int))(hy:ev env y=some (.int .u64 j))(hj:j=(b:Int))(ha:a<18446744073709551616)(hb:b<18446744073709551616)(h:a&&&b=c):
 Any P env n ⟨d,.binOp .and t x y ty,T,p,af,g⟩ (.int .u64 (c:Int)):=(Any.aeK a b hx hi hy hj ha hb).as (by rw[h])
theorem Any.orE (a b c:Nat)(hx:ev env x=some (.int .u64 i))(hi:i=(a:Int))(hy:ev env y=some (.int .u64 j))(hj:j=(b:Int))(ha:a<18446744073709551616)(hb:b<18446744073709551616)(h:a|||b=c):
 Any P env n ⟨d,.binOp .or t x y ty,T,p,af,g⟩ (.int .u64 (c:Int)):=(Any.orN a b hx hi hy hj ha hb).as (by rw[h])
theorem Any.ac7 {s:ByteArray}(m:Nat)(b:UInt8)(ht:P.underlying t=some .string)(hx:ev env x=some (.string s))(hy:ev env y=some (.int k i))(hi:i=(m:Int))(hb:s[m]? =some b):
  Any P env n ⟨d,.index t x y,T,p,af,g⟩ (.int .u8 (b.toNat:Int)):=fun a ha w=>by
 subst hi
 simp[execOp,ha.eval hx,ha.eval hy,Instr.index,asIntOf,run_underlying ht,hb]
theorem Any.ahf {e len:TypeId}{xs:List (BitVec 8)}(m:Nat)(ht:P.underlying t=some (.array len e))(he:P.underlying e=some (.int .u8))(hs:Sz P e 1)(hl:xs.length=len)(hx:ev env x=some (.agg (xs.map jf).toArray))(hy:ev env y=some (.int k i))(hi:i=(m:Int))(hm:m<len):
  Any P env n ⟨d,.index t x y,T,p,af,g⟩ (jf (xs.getD m 0)):=fun a ha w=>by
 subst hi
 have c:(0<=(m:Int)/\(m:Int)<(len:Int)):=by omega
 have f:=kR (P:=P) (e:=e) (xs:=(xs.map jf).toArray) (o:=m) (v:=jf (xs.getD m 0)) ⟨_,he,rfl⟩ (JB xs (by omega)) w
 simp[execOp,ha.eval hx,ha.eval hy,Instr.index,asIntOf,run_underlying ht,c,hm,hs.run,f]
theorem aaa (a b:Nat)(hb:b<256):a*256|||b=a*256+b:=by
 rw[Nat.mul_comm,show(256:Nat)=2^8 by decide]
 exact(Nat.two_pow_add_eq_or_of_lt (by omega) _).symm
theorem V3 (a b:Nat)(hb:b<256):a*256%18446744073709551616|||b=a*256%18446744073709551616+b:=by
 rw[show a*256%18446744073709551616=a%72057594037927936*256 by omega]
 exact aaa _ b hb
end
variable {Y U e qh:Nat}
theorem KX {a b r:Nat}(hY:Y=a*4294967296+b)(hU:U<Y)(he:e<4294967296)(hi:qh*a+r=U)(ht:4294967296<=qh\/4294967296*r+e<qh*b):(U*4294967296+e)/Y<qh:=by
 have d:0<Y:=by omega
 rw[Nat.div_lt_iff_lt_mul d]
 rcases ht with h|h
 ·have c:4294967296*Y<=qh*Y:=Nat.mul_le_mul_right _ h
  omega
 ·have c:qh*Y=(qh*a)*4294967296+qh*b:=by rw[hY,Nat.mul_add,<-Nat.mul_assoc]
  rw[c]
  omega
theorem Pz {a b r:Nat}(hY:Y=a*4294967296+b)(hY0:0<Y)(hi:qh*a+r=U)(ht:qh*b<=4294967296*r+e):qh<=(U*4294967296+e)/Y:=by
 rw[Nat.le_div_iff_mul_le hY0]
 have c:qh*Y=(qh*a)*4294967296+qh*b:=by rw[hY,Nat.mul_add,<-Nat.mul_assoc]
 rw[c]
 omega
theorem FZ {a b r:Nat}(hY:Y=a*4294967296+b)(hY0:0<Y)(hb:b<4294967296)(hi:qh*a+r=U)(hr:4294967296<=r)(hq:qh<=4294967296):qh<=(U*4294967296+e)/Y:=by
 refine Pz hY hY0 hi ?_
 have c:qh*b<=4294967296*b:=Nat.mul_le_mul_right _ hq
 have d:4294967296*b<=4294967296*4294967296:=by omega
 omega
theorem JD {a b:Nat}(hY:Y=a*4294967296+b)(ha:2147483648<=a)(hb:b<4294967296)(hU:U<Y):U/a<=4294967297:=by
 have h:U/a<4294967298:=by
  rw[Nat.div_lt_iff_lt_mul (by omega)]
  omega
 omega
theorem JE {a b:Nat}(hY:Y=a*4294967296+b)(ha:0<a)(hU:U<Y)(he:e<4294967296):(U*4294967296+e)/Y<=U/a:=by
 have d:U/a*a+U%a=U:=by rw[Nat.mul_comm];exact Nat.div_add_mod U a
 have f:U%a<a:=Nat.mod_lt _ ha
 have i:(U*4294967296+e)/Y<U/a+1:=by
  rw[Nat.div_lt_iff_lt_mul (by omega)]
  have c:(U/a+1)*Y=(U/a*a+a)*4294967296+(U/a+1)*b:=by rw[hY,Nat.mul_add,<-Nat.mul_assoc,Nat.succ_mul]
  rw[c]
  omega
 omega
theorem QY (U a:Nat)(hU:U<18446744073709551616):(U+(18446744073709551616-U/a*a))%18446744073709551616=U%a:=by
 have c:U/a*a+U%a=U:=by rw[Nat.mul_comm];exact Nat.div_add_mod U a
 omega
theorem MW (Y N Q:Nat)(hQ:Q=N/Y)(hY:0<Y)(hY2:Y<=18446744073709551616):(N%18446744073709551616+(18446744073709551616-Q*Y%18446744073709551616))%18446744073709551616=N%Y:=by
 subst hQ
 have c:N/Y*Y+N%Y=N:=by rw[Nat.mul_comm];exact Nat.div_add_mod N Y
 have d:N%Y<Y:=Nat.mod_lt _ hY
 generalize N/Y*Y=p at*
 omega
end Go.Sx
