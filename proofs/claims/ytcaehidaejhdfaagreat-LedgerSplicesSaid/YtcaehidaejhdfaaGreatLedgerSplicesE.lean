/- LedgerSplices: for every input the law answers true and leaves its arguments as they were. -/
import Derived.Test.YtcaehidaejhdfaaGreatLedgerSplicesD
import Derived.Lib.ConvBytes
set_option linter.unusedVariables false
set_option linter.unusedSimpArgs false
namespace Go.Sx
open Go
section
variable {P:Program}{env:Env}{n:Nat}{d:Option Nat}{T:TypeId}{p:String}{af:Array Edge}{g:Option (Nat×Bool)}{w:World}{K:Value->World->Prop}
theorem Any.Xh {t:TypeId}{x:Operand}{a:BitVec 32}(hx:ev env x=some (kZ a)):Any P env n ⟨d,.unOp .xor t x,T,p,af,g⟩ (kZ (~~~a)):=fun ac ha w=>by
  have h:IntKind.u32.wrap ((BitVec.allOnes 32^^^a).toNat:Int)=((~~~a).toNat:Int):=by rw[BitVec.allOnes_xor,wrap_u32];have:=(~~~a).isLt;omega
  have hr:(Op.unary .xor (kZ a)).run P w= .ok (kZ (~~~a)) w:=by
    simp only[kZ,Op.unary]
    rw[if_neg (by decide),show IntKind.u32.max=((BitVec.allOnes 32).toNat:Int)from by decide]
    simp only[Op.intBits,IntKind.bits,uV]
    exact congrArg (fun i=>Result.ok (Value.int .u32 i) w) h
  simp[execOp,ha.eval hx,hr]
theorem Ef.Po {t t' e:TypeId}{x:Operand}{s:ByteArray}{u:TypeDesc}(ht:P.underlying t=some u)(hd:P.underlying t'=some (.slice e))(he:P.underlying e=some (.int .u8))(hx:ev env x=some (.string s))
    (h:∀A c w',Sl w' 1 A s.size (byteCells s)->s.size<=c->Le w w'->K (.slice A s.size c) w'):Ef P env n ⟨d,.convert t t' x,T,p,af,g⟩ w K:=by
  refine .of_run (v:= .slice (some ⟨w.heap.size,0,none⟩) s.size (grownCap w s.size 0 e)) (w':=Lib.bytesWorld w e s) (fun a ha=>?_) (h _ _ _ ?_ ?_ ?_)
  · simp[execOp,ha.eval hx,Lib.run_convert_string_bytes w t t' e s ht hd he]
  · refine⟨by rw[byteCells_length];omega,fun j v hv=>⟨_,rfl,?_⟩⟩
    have hj:j<s.size:=by have:=(List.getElem?_eq_some_iff.1 hv).1;rwa [byteCells_length]at this
    rw[add_lit,Nat.zero_add,Lib.bytesWorld_cell w e s j hj,<-hv]
    simp[byteCells,List.getD,hj]
  · exact grownCap_ge w s.size 0 e
  · exact⟨rfl,rfl,rfl,by rw[Lib.bytesWorld_size];omega,fun k hk=>Lib.bytesWorld_at_old w e s k hk⟩
end
end Go.Sx

namespace Go.Sx
open Go Go.RowKit
section
variable {P:Program}{ops:Array Oper}{Q:Exit->Act->World->Prop}{n:Nat}
inductive Tr
  |nil
  |op (need:Bool) (i:Nat) (t:Tr)
  |br (t u:Tr)
def Tr.size:Tr->Nat
  | .nil=>0
  | .op _ _ t=>t.size+1
  | .br t _=>t.size
def app (ops:Array Oper):List Nat->Tr->Tr
  |[],t=>t
  |i::rest,t=> .op (nS ops i||rest.any (nS ops)) i (app ops rest t)
def RS (P:Program)(ops:Array Oper)(Q:Exit->Act->World->Prop):Tr->Act->World->Prop
  | .nil,a,w=>Q .normal a w
  | .op need i t,a,w=>∃o,ops[i]? =some o/\
    if kd o.op=2 then wpOp P ops Vf i (fun a' w'=>(need=true->Le w w')/\RS P ops Q t a' w') a w
    else∃v,YieldsIf P ops (fun w'=>kd o.op=1->Le w w') o v a/\RS P ops Q t (a.put o.dst v) w
  | .br t u,a,w=>RS P ops Q t a w/\RS P ops Q u a w
def GT (P:Program)(ops:Array Oper)(Q:Exit->Act->World->Prop)(n:Nat)(t:Tr)(env:Env)(w:World):Prop:=∀a,tK a n env->RS P ops Q t a w
theorem Dq {t:Tr}:∀(L:List Nat) (a:Act) (w:World),Sk P ops (fun _ a w=>RS P ops Q t a w) L a w->RS P ops Q (app ops L t) a w
  |[],_,_,h=>h
  |i::rest,a,w,h=>by
    obtain⟨o,ho,h⟩:=h
    refine⟨o,ho,?_⟩
    split
    · rename_i hk
      rw[if_pos hk]at h
      exact wpOp_mono (fun a' w' h'=>⟨h'.1,Dq rest a' w' h'.2⟩) h
    · rename_i hk
      rw[if_neg hk]at h
      obtain⟨v,hy,h⟩:=h
      exact⟨v,hy,Dq rest _ _ h⟩
theorem GT.app {t:Tr}{L:List Nat}{env:Env}{w:World}(h:G P ops (fun _ a w=>RS P ops Q t a w) n L env w):GT P ops Q n (Sx.app ops L t) env w:=fun a ha=>Dq L a w (h a ha)
theorem GT.br {t u:Tr}{env:Env}{w:World}(h1:GT P ops Q n t env w)(h2:GT P ops Q n u env w):E (fun _ a w=>RS P ops Q (.br t u) a w) n .normal env w:=fun a ha=>⟨h1 a ha,h2 a ha⟩
theorem Ea:∀(L:List Nat) (a:Act) (w:World),Sk P ops Q L a w->Sk P ops (fun _ a w=>RS P ops Q .nil a w) L a w
  |[],_,_,h=>h
  |i::rest,a,w,h=>by
    obtain⟨o,ho,h⟩:=h
    refine⟨o,ho,?_⟩
    split
    · rename_i hk
      rw[if_pos hk]at h
      exact wpOp_mono (fun a' w' h'=>⟨h'.1,Ea rest a' w' h'.2⟩) h
    · rename_i hk
      rw[if_neg hk]at h
      obtain⟨v,hy,h⟩:=h
      exact⟨v,hy,Ea rest _ _ h⟩
theorem GT.last {L:List Nat}{env:Env}{w:World}(h:G P ops Q n L env w):GT P ops Q n (Sx.app ops L .nil) env w:=fun a ha=>Dq L a w (Ea L a w (h a ha))
end
end Go.Sx

namespace Go.Sx
open Go Go.RowKit
section
variable {P:Program}{env:Env}{n:Nat}{d:Option Nat}{T:TypeId}{p:String}{af:Array Edge}{g:Option (Nat×Bool)}{w:World}
theorem Any.as {o:Oper}{v v':Value}(h:Any P env n o v)(e:v=v'):Any P env n o v':=e▸h
theorem Rd.as {o:Oper}{v v':Value}(h:Rd P w env n o v)(e:v=v'):Rd P w env n o v':=e▸h
theorem wN (a:Nat):IntKind.u64.wrap (a:Int)=((a%18446744073709551616:Nat):Int):=by rw[wrap_u64];omega
theorem Any.addN {t ty:TypeId}{x y:Operand}{i j:Int}(a b c:Nat)(hx:ev env x=some (.int .u64 i))(hi:i=(a:Int))(hy:ev env y=some (.int .u64 j))(hj:j=(b:Int))(h:(a+b)%18446744073709551616=c):
    Any P env n ⟨d,.binOp .add t x y ty,T,p,af,g⟩ (.int .u64 (c:Int)):= .int hx hy fun w=>by
  subst hi hj h
  have e:IntKind.u64.wrap ((a:Int)+(b:Int))=(((a+b)%18446744073709551616:Nat):Int):=by rw[<-Int.natCast_add,wN]
  simp only[binOp,Op.intArith,e];rfl
theorem Any.mulN {t ty:TypeId}{x y:Operand}{i j:Int}(a b c:Nat)(hx:ev env x=some (.int .u64 i))(hi:i=(a:Int))(hy:ev env y=some (.int .u64 j))(hj:j=(b:Int))(h:(a*b)%18446744073709551616=c):
    Any P env n ⟨d,.binOp .mul t x y ty,T,p,af,g⟩ (.int .u64 (c:Int)):= .int hx hy fun w=>by
  subst hi hj h
  have e:IntKind.u64.wrap ((a:Int)*(b:Int))=(((a*b)%18446744073709551616:Nat):Int):=by rw[<-Int.natCast_mul,wN]
  simp only[binOp,Op.intArith,e];rfl
theorem Any.G8 {t ty:TypeId}{x y:Operand}{i j:Int}(a b c:Nat)(hx:ev env x=some (.int .u64 i))(hi:i=(a:Int))(hy:ev env y=some (.int .u64 j))(hj:j=(b:Int))(hb:b<=18446744073709551616)(h:(a+(18446744073709551616-b))%18446744073709551616=c):
    Any P env n ⟨d,.binOp .sub t x y ty,T,p,af,g⟩ (.int .u64 (c:Int)):= .int hx hy fun w=>by
  subst hi hj h
  have e:IntKind.u64.wrap ((a:Int)-(b:Int))=(((a+(18446744073709551616-b))%18446744073709551616:Nat):Int):=by rw[wrap_u64];omega
  simp only[binOp,Op.intArith,e];rfl
theorem Any.Ko {t ty:TypeId}{x y:Operand}{i j:Int}(a b c:Nat)(hx:ev env x=some (.int .u64 i))(hi:i=(a:Int))(hy:ev env y=some (.int .u64 j))(hj:j=(b:Int))(ha:a<18446744073709551616)(hb:0<b)(h:a/b=c):
    Any P env n ⟨d,.binOp .quo t x y ty,T,p,af,g⟩ (.int .u64 (c:Int)):=by
  subst hi hj h
  exact(Any.ZY hx hy (by omega)).as (by rw[Int.natCast_ediv])
theorem Any.FD {t ty:TypeId}{x y:Operand}{i j:Int}(a b c:Nat)(hx:ev env x=some (.int .u64 i))(hi:i=(a:Int))(hy:ev env y=some (.int .u64 j))(hj:j=(b:Int))(hb:0<b)(h:a%b=c):
    Any P env n ⟨d,.binOp .rem t x y ty,T,p,af,g⟩ (.int .u64 (c:Int)):=by
  subst hi hj h
  exact(Any.ZZ hx hy (by omega)).as (by rw[Int.natCast_emod])
theorem Any.SB {t ty:TypeId}{x y:Operand}{k':IntKind}{i j:Int}(a m c:Nat)(hx:ev env x=some (.int .u64 i))(hi:i=(a:Int))(hy:ev env y=some (.int k' j))(hj:j=(m:Int))(hm:m<=64)(h:(a*2^m)%18446744073709551616=c):
    Any P env n ⟨d,.binOp .shl t x y ty,T,p,af,g⟩ (.int .u64 (c:Int)):= .int hx hy fun w=>by
  subst hi hj h
  have b:¬((m:Int)<0):=by omega
  have f:min m IntKind.u64.bits=m:=Nat.min_eq_left hm
  have e:IntKind.u64.wrap ((a:Int)*2^m)=(((a*2^m)%18446744073709551616:Nat):Int):=by
    rw[<-wN,Int.natCast_mul,Int.natCast_pow];rfl
  simp only[binOp,Op.shift]
  rw[if_neg b]
  simp only[Int.toNat_natCast,f,e]
  rfl
theorem Any.zn {t ty:TypeId}{x y:Operand}{k k':IntKind}{i j:Int}(a m c:Nat)(hx:ev env x=some (.int k i))(ha:i=(a:Int))(hy:ev env y=some (.int k' j))(hj:j=(m:Int))(hm:m<=k.bits)(h:a/2^m=c):
    Any P env n ⟨d,.binOp .shr t x y ty,T,p,af,g⟩ (.int k (c:Int)):=
  (Any.Ph a m hx ha hy hj hm).as (by rw[Nat.shiftRight_eq_div_pow,h])
theorem mask32 (a:Nat):a&&&4294967295=a%4294967296:=Nat.and_two_pow_sub_one_eq_mod a 32
theorem Uw (a:Nat):a&&&1=a%2:=Nat.and_two_pow_sub_one_eq_mod a 1
theorem Any.Kq {t ty:TypeId}{x y:Operand}{i j:Int}(a b c:Nat)(hx:ev env x=some (.int .u64 i))(hi:i=(a:Int))(hy:ev env y=some (.int .u64 j))(hj:j=(b:Int))(ha:a<18446744073709551616)(hb:b<18446744073709551616)(h:a&&&b=c):
    Any P env n ⟨d,.binOp .and t x y ty,T,p,af,g⟩ (.int .u64 (c:Int)):=(Any.Xf a b hx hi hy hj ha hb).as (by rw[h])
theorem Any.orE {t ty:TypeId}{x y:Operand}{i j:Int}(a b c:Nat)(hx:ev env x=some (.int .u64 i))(hi:i=(a:Int))(hy:ev env y=some (.int .u64 j))(hj:j=(b:Int))(ha:a<18446744073709551616)(hb:b<18446744073709551616)(h:a|||b=c):
    Any P env n ⟨d,.binOp .or t x y ty,T,p,af,g⟩ (.int .u64 (c:Int)):=(Any.orN a b hx hi hy hj ha hb).as (by rw[h])
theorem Any.Vl {t:TypeId}{x y:Operand}{s:ByteArray}{k:IntKind}{i:Int}(m:Nat)(b:UInt8)(ht:P.underlying t=some .string)(hx:ev env x=some (.string s))(hy:ev env y=some (.int k i))(hi:i=(m:Int))(hb:s[m]? =some b):
    Any P env n ⟨d,.index t x y,T,p,af,g⟩ (.int .u8 (b.toNat:Int)):=fun a ha w=>by
  subst hi
  simp[execOp,ha.eval hx,ha.eval hy,Instr.index,asIntOf,run_underlying ht,hb]
end
theorem G9 {Y a b U e qh r:Nat}(hY:Y=a*4294967296+b)(hU:U<Y)(he:e<4294967296)(hi:qh*a+r=U)(ht:4294967296<=qh\/4294967296*r+e<qh*b):(U*4294967296+e)/Y<qh:=by
  have d:0<Y:=by omega
  rw[Nat.div_lt_iff_lt_mul d]
  rcases ht with h|h
  · have c:4294967296*Y<=qh*Y:=Nat.mul_le_mul_right _ h
    omega
  · have c:qh*Y=(qh*a)*4294967296+qh*b:=by rw[hY,Nat.mul_add,<-Nat.mul_assoc]
    rw[c]
    omega
theorem Kr {Y a b U e qh r:Nat}(hY:Y=a*4294967296+b)(hY0:0<Y)(hi:qh*a+r=U)(ht:qh*b<=4294967296*r+e):qh<=(U*4294967296+e)/Y:=by
  rw[Nat.le_div_iff_mul_le hY0]
  have c:qh*Y=(qh*a)*4294967296+qh*b:=by rw[hY,Nat.mul_add,<-Nat.mul_assoc]
  rw[c]
  omega
theorem Dr {Y a b U e qh r:Nat}(hY:Y=a*4294967296+b)(hY0:0<Y)(hb:b<4294967296)(hi:qh*a+r=U)(hr:4294967296<=r)(hq:qh<=4294967296):qh<=(U*4294967296+e)/Y:=by
  refine Kr hY hY0 hi ?_
  have c:qh*b<=4294967296*b:=Nat.mul_le_mul_right _ hq
  have d:4294967296*b<=4294967296*4294967296:=by omega
  omega
theorem FV {Y a b U:Nat}(hY:Y=a*4294967296+b)(ha:2147483648<=a)(hb:b<4294967296)(hU:U<Y):U/a<=4294967297:=by
  have h:U/a<4294967298:=by
    rw[Nat.div_lt_iff_lt_mul (by omega)]
    omega
  omega
theorem FW {Y a b U e:Nat}(hY:Y=a*4294967296+b)(ha:0<a)(hU:U<Y)(he:e<4294967296):(U*4294967296+e)/Y<=U/a:=by
  have d:U/a*a+U%a=U:=by rw[Nat.mul_comm];exact Nat.div_add_mod U a
  have f:U%a<a:=Nat.mod_lt _ ha
  have i:(U*4294967296+e)/Y<U/a+1:=by
    rw[Nat.div_lt_iff_lt_mul (by omega)]
    have c:(U/a+1)*Y=(U/a*a+a)*4294967296+(U/a+1)*b:=by rw[hY,Nat.mul_add,<-Nat.mul_assoc,Nat.succ_mul]
    rw[c]
    omega
  omega
theorem LM (U a:Nat)(hU:U<18446744073709551616):(U+(18446744073709551616-U/a*a))%18446744073709551616=U%a:=by
  have b:U/a*a+U%a=U:=by rw[Nat.mul_comm];exact Nat.div_add_mod U a
  omega
theorem Jc (Y N Q:Nat)(hQ:Q=N/Y)(hY:0<Y)(hY2:Y<=18446744073709551616):(N%18446744073709551616+(18446744073709551616-Q*Y%18446744073709551616))%18446744073709551616=N%Y:=by
  subst hQ
  have b:N/Y*Y+N%Y=N:=by rw[Nat.mul_comm];exact Nat.div_add_mod N Y
  have c:N%Y<Y:=Nat.mod_lt _ hY
  generalize N/Y*Y=p at*
  omega
end Go.Sx

