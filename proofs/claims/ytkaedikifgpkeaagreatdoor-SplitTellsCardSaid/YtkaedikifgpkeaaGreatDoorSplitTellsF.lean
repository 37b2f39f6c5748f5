/- SplitTells: for every input the law answers true and leaves its arguments as they were. -/
import Derived.Test.YtkaedikifgpkeaaGreatDoorSplitTellsE
import Derived.Lib.ConvBytes
set_option linter.unusedVariables false
set_option linter.unusedSimpArgs false
namespace Go.Sx
open Go
section
variable {P:Program}{env:Env}{n:Nat}{d:Option Nat}{T:TypeId}{p:String}{af:Array Edge}{g:Option (Nat×Bool)}{w:World}{K:Value->World->Prop}
theorem Any.Pt {t:TypeId}{x:Operand}{a:BitVec 32}(hx:ev env x=some (iw a)):Any P env n ⟨d,.unOp .xor t x,T,p,af,g⟩ (iw (~~~a)):=fun ac ha w=>by
  have h:IntKind.u32.wrap ((BitVec.allOnes 32^^^a).toNat:Int)=((~~~a).toNat:Int):=by rw[BitVec.allOnes_xor,wrap_u32];have:=(~~~a).isLt;omega
  have hr:(Op.unary .xor (iw a)).run P w= .ok (iw (~~~a)) w:=by
    simp only[iw,Op.unary]
    rw[if_neg (by decide),show IntKind.u32.max=((BitVec.allOnes 32).toNat:Int)from by decide]
    simp only[Op.intBits,IntKind.bits,qI]
    exact congrArg (fun i=>Result.ok (Value.int .u32 i) w) h
  simp[execOp,ha.eval hx,hr]
theorem Ef.Pv {t t' e:TypeId}{x:Operand}{s:ByteArray}{u:TypeDesc}(ht:P.underlying t=some u)(hd:P.underlying t'=some (.slice e))(he:P.underlying e=some (.int .u8))(hx:ev env x=some (.string s))
    (h:∀A c w',Sl w' 1 A s.size (byteCells s)->s.size<=c->Le w w'->K (.slice A s.size c) w'):Ef P env n ⟨d,.convert t t' x,T,p,af,g⟩ w K:=by
  refine .of_run (v:= .slice (some ⟨w.heap.size,0,none⟩) s.size (grownCap w s.size 0 e)) (w':=Lib.bytesWorld w e s) (fun a ha=>?_) (h _ _ _ ?_ ?_ ?_)
  · simp[execOp,ha.eval hx,Lib.run_convert_string_bytes w t t' e s ht hd he]
  · refine⟨by rw[byteCells_length];omega,fun j v hv=>⟨_,rfl,?_⟩⟩
    have hj:j<s.size:=by have:=(List.getElem?_eq_some_iff.1 hv).1;rwa [byteCells_length]at this
    rw[add_lit,Nat.zero_add,Lib.bytesWorld_cell w e s j hj,<-hv]
    simp[byteCells,List.getD,hj]
  · exact grownCap_ge w s.size 0 e
  · exact⟨rfl,rfl,rfl,by rw[Lib.bytesWorld_size];omega,fun k hk=>Lib.bytesWorld_at_old w e s k hk⟩
end
end Go.Sx

namespace Go.Sx
open Go Go.RowKit
section
variable {P:Program}{ops:Array Oper}{Q:Exit->Act->World->Prop}{n:Nat}
inductive Tr
  |nil
  |op (need:Bool) (i:Nat) (t:Tr)
  |br (t u:Tr)
def Tr.size:Tr->Nat
  | .nil=>0
  | .op _ _ t=>t.size+1
  | .br t _=>t.size
def app (ops:Array Oper):List Nat->Tr->Tr
  |[],t=>t
  |i::rest,t=> .op (nS ops i||rest.any (nS ops)) i (app ops rest t)
def Nr (P:Program)(ops:Array Oper)(Q:Exit->Act->World->Prop):Tr->Act->World->Prop
  | .nil,a,w=>Q .normal a w
  | .op need i t,a,w=>∃o,ops[i]? =some o/\
    if kd o.op=2 then wpOp P ops SK i (fun a' w'=>(need=true->Le w w')/\Nr P ops Q t a' w') a w
    else∃v,YieldsIf P ops (fun w'=>kd o.op=1->Le w w') o v a/\Nr P ops Q t (a.put o.dst v) w
  | .br t u,a,w=>Nr P ops Q t a w/\Nr P ops Q u a w
def Ht (ops:Array Oper)(need:Bool)(i:Nat)(listed:Array Bool):Bool:=k2 ops i&&(!nS ops i||need)&&(need||still ops (listed.setIfInBounds i true))
def mI (ops:Array Oper):Tr->Array Bool->Bool
  | .nil,listed=>(Region.ready .any ops listed).isEmpty
  | .op need i t,listed=>(if k2 ops i then(Region.ready .any ops listed==[i])&&Ht ops need i listed else(Region.ready .any ops listed).contains i&&Region.free .any ops listed i)&&mI ops t (listed.setIfInBounds i true)
  | .br (.op n i t) (.op m j u),listed=>Region.ready .any ops listed==[i,j]&&Ht ops n i listed&&Ht ops m j listed&&t.size==u.size&&mI ops t (listed.setIfInBounds i true)&&mI ops u (listed.setIfInBounds j true)
  | .br _ _,_=>false
theorem J4 {need:Bool}{i:Nat}{t:Tr}{listed:Array Bool}{a:Act}{w:World}(ih:∀a' w',Nr P ops Q t a' w'->kG P ops (qH Q) (Le w') t.size (listed.setIfInBounds i true) a' w')
    (he:Ht ops need i listed=true)(h:Nr P ops Q (.op need i t) a w):
    wpOp P ops (qH Q) i (fun a' w'=>Ob ops (Le w) i w w'/\kG P ops (qH Q) (Le w) t.size (listed.setIfInBounds i true) a' w') a w:=by
  simp only[Ht,Bool.and_eq_true,Bool.or_eq_true,Bool.not_eq_true']at he
  obtain⟨⟨b,hn⟩,hst⟩:=he
  obtain⟨o,ho,h⟩:=h
  have hk:kd o.op=2:=by unfold k2 at b;rw[ho]at b;simpa using b
  rw[if_pos hk]at h
  refine wpOp_mono (fun a' w' h'=>⟨?_,?_⟩) (wX h)
  · unfold Ob
    rw[if_pos b]
    intro hs
    rcases hn with hn|hn
    · rw[hn]at hs;cases hs
    · exact h'.1 hn
  · have:=ih a' w' h'.2
    rcases hst with hst|hst
    · exact oG (fun _ hw=>(h'.1 hst).trans hw) _ _ _ _ this
    · exact rX _ _ _ _ hst this
theorem xn (hs:Region.noSelect ops=true):∀(t:Tr) (listed:Array Bool) (a:Act) (w:World),
    Cl ops listed->mI ops t listed=true->Nr P ops Q t a w->kG P ops (qH Q) (Le w) t.size listed a w
  | .nil,listed,a,w,_,hp,h=>⟨by simpa[mI]using hp,rfl,h⟩
  | .op need i t,listed,a,w,hcl,hp,h=>by
    simp only[mI,Bool.and_eq_true]at hp
    obtain⟨hp1,hp2⟩:=hp
    by_cases b:k2 ops i=true
    · rw[if_pos b,Bool.and_eq_true,beq_iff_eq]at hp1
      obtain⟨hr,he⟩:=hp1
      refine⟨fun c=>(by rw[hr]at c;cases c),fun j hj=>?_⟩
      rw[hr]at hj
      obtain rfl:j=i:=by simpa using hj
      exact J4 (fun a' w' h'=>xn hs t _ a' w' (hcl.set (by rw[hr];simp)) hp2 h') he h
    · rw[if_neg b]at hp1
      simp only[Bool.and_eq_true]at hp1
      obtain⟨o,ho,h⟩:=h
      have hk:¬kd o.op=2:=by unfold k2 at b;rw[ho]at b;simpa using b
      rw[if_neg hk]at h
      obtain⟨v,hy,h⟩:=h
      have hi:i∈Region.ready .any ops listed:=by simpa using hp1.1
      exact mf ho (Region.noSelect_spec hs) (fun _ _ _ hf=>by cases hf.1) hk _ listed a w hcl (Region.free_spec ho hp1.2) hi hy (fun _=>Le.refl w) (xn hs t _ _ _ (hcl.set hi) hp2 h)
  | .br (.op n i t) (.op m j u),listed,a,w,hcl,hp,h=>by
    simp only[mI,Bool.and_eq_true,beq_iff_eq]at hp
    obtain⟨⟨⟨⟨⟨hr,d⟩,e⟩,hsz⟩,hp1⟩,hp2⟩:=hp
    refine⟨fun c=>(by rw[hr]at c;cases c),fun k hk=>?_⟩
    rw[hr]at hk
    simp only[List.mem_cons,List.not_mem_nil,or_false]at hk
    rcases hk with rfl|rfl
    · exact J4 (fun a' w' h'=>xn hs t _ a' w' (hcl.set (by rw[hr];simp)) hp1 h') d h.1
    · show wpOp P ops (qH Q) k (fun a' w'=>Ob ops (Le w) k w w'/\kG P ops (qH Q) (Le w) t.size (listed.setIfInBounds k true) a' w') a w
      rw[hsz]
      exact J4 (fun a' w' h'=>xn hs u _ a' w' (hcl.set (by rw[hr];simp)) hp2 h') e h.2
  | .br .nil _,_,_,_,_,hp,_=>by simp[mI]at hp
  | .br (.br _ _) _,_,_,_,_,hp,_=>by simp[mI]at hp
  | .br (.op _ _ _) .nil,_,_,_,_,hp,_=>by simp[mI]at hp
  | .br (.op _ _ _) (.br _ _),_,_,_,_,hp,_=>by simp[mI]at hp
def LG (ops:Array Oper)(t:Tr):Bool:=t.size==ops.size&&Region.noSelect ops&&mI ops t (Array.replicate ops.size false)
def GT (P:Program)(ops:Array Oper)(Q:Exit->Act->World->Prop)(n:Nat)(t:Tr)(env:Env)(w:World):Prop:=∀a,mV a n env->Nr P ops Q t a w
theorem Am {t:Tr}:∀(L:List Nat) (a:Act) (w:World),R4 P ops (fun _ a w=>Nr P ops Q t a w) L a w->Nr P ops Q (app ops L t) a w
  |[],_,_,h=>h
  |i::rest,a,w,h=>by
    obtain⟨o,ho,h⟩:=h
    refine⟨o,ho,?_⟩
    split
    · rename_i hk
      rw[if_pos hk]at h
      exact wpOp_mono (fun a' w' h'=>⟨h'.1,Am rest a' w' h'.2⟩) h
    · rename_i hk
      rw[if_neg hk]at h
      obtain⟨v,hy,h⟩:=h
      exact⟨v,hy,Am rest _ _ h⟩
theorem GT.app {t:Tr}{L:List Nat}{env:Env}{w:World}(h:G P ops (fun _ a w=>Nr P ops Q t a w) n L env w):GT P ops Q n (Sx.app ops L t) env w:=fun a ha=>Am L a w (h a ha)
theorem GT.br {t u:Tr}{env:Env}{w:World}(h1:GT P ops Q n t env w)(h2:GT P ops Q n u env w):E (fun _ a w=>Nr P ops Q (.br t u) a w) n .normal env w:=fun a ha=>⟨h1 a ha,h2 a ha⟩
theorem BF:∀(L:List Nat) (a:Act) (w:World),R4 P ops Q L a w->R4 P ops (fun _ a w=>Nr P ops Q .nil a w) L a w
  |[],_,_,h=>h
  |i::rest,a,w,h=>by
    obtain⟨o,ho,h⟩:=h
    refine⟨o,ho,?_⟩
    split
    · rename_i hk
      rw[if_pos hk]at h
      exact wpOp_mono (fun a' w' h'=>⟨h'.1,BF rest a' w' h'.2⟩) h
    · rename_i hk
      rw[if_neg hk]at h
      obtain⟨v,hy,h⟩:=h
      exact⟨v,hy,BF rest _ _ h⟩
theorem GT.last {L:List Nat}{env:Env}{w:World}(h:G P ops Q n L env w):GT P ops Q n (Sx.app ops L .nil) env w:=fun a ha=>Am L a w (BF L a w (h a ha))
theorem WC.Pw {env:Env}{w:World}{id:Nat}(t:Array Oper->Tr)(hm:P.follows .mixedOrders=true)(hp:LG ops (t ops)=true)
    (h:∀w',Le w w'->GT P ops Q n (t ops) env w'):WC P Q n (.region id ops true) env w:=fun a ha=>by
  simp only[LG,Bool.and_eq_true,beq_iff_eq]at hp
  obtain⟨⟨hl,hs⟩,hp⟩:=hp
  have:=xn hs (t ops) _ a _ (Cl.none _) hp (h _ (Le.drew w) a ha)
  rw[hl]at this
  refine wp_mono (wp_region_any hm (lU _ _ _ _ this)) ?_
  rintro e a w ⟨rfl,hq⟩
  exact hq
end
end Go.Sx

namespace Go.Sx
open Go Go.RowKit
section
variable {P:Program}{env:Env}{n:Nat}{d:Option Nat}{T:TypeId}{p:String}{af:Array Edge}{g:Option (Nat×Bool)}{w:World}
theorem Any.as {o:Oper}{v v':Value}(h:Any P env n o v)(e:v=v'):Any P env n o v':=e▸h
theorem Rd.as {o:Oper}{v v':Value}(h:Rd P w env n o v)(e:v=v'):Rd P w env n o v':=e▸h
theorem r9 (a:Nat):IntKind.u64.wrap (a:Int)=((a%18446744073709551616:Nat):Int):=by rw[wrap_u64];omega
theorem Any.addN {t ty:TypeId}{x y:Operand}{i j:Int}(a b c:Nat)(hx:ev env x=some (.int .u64 i))(hi:i=(a:Int))(hy:ev env y=some (.int .u64 j))(hj:j=(b:Int))(h:(a+b)%18446744073709551616=c):
    Any P env n ⟨d,.binOp .add t x y ty,T,p,af,g⟩ (.int .u64 (c:Int)):= .int hx hy fun w=>by
  subst hi hj h
  have e:IntKind.u64.wrap ((a:Int)+(b:Int))=(((a+b)%18446744073709551616:Nat):Int):=by rw[<-Int.natCast_add,r9]
  simp only[binOp,Op.intArith,e];rfl
theorem Any.mulN {t ty:TypeId}{x y:Operand}{i j:Int}(a b c:Nat)(hx:ev env x=some (.int .u64 i))(hi:i=(a:Int))(hy:ev env y=some (.int .u64 j))(hj:j=(b:Int))(h:(a*b)%18446744073709551616=c):
    Any P env n ⟨d,.binOp .mul t x y ty,T,p,af,g⟩ (.int .u64 (c:Int)):= .int hx hy fun w=>by
  subst hi hj h
  have e:IntKind.u64.wrap ((a:Int)*(b:Int))=(((a*b)%18446744073709551616:Nat):Int):=by rw[<-Int.natCast_mul,r9]
  simp only[binOp,Op.intArith,e];rfl
theorem Any.xq {t ty:TypeId}{x y:Operand}{i j:Int}(a b c:Nat)(hx:ev env x=some (.int .u64 i))(hi:i=(a:Int))(hy:ev env y=some (.int .u64 j))(hj:j=(b:Int))(hb:b<=18446744073709551616)(h:(a+(18446744073709551616-b))%18446744073709551616=c):
    Any P env n ⟨d,.binOp .sub t x y ty,T,p,af,g⟩ (.int .u64 (c:Int)):= .int hx hy fun w=>by
  subst hi hj h
  have e:IntKind.u64.wrap ((a:Int)-(b:Int))=(((a+(18446744073709551616-b))%18446744073709551616:Nat):Int):=by rw[wrap_u64];omega
  simp only[binOp,Op.intArith,e];rfl
theorem Any.tF {t ty:TypeId}{x y:Operand}{i j:Int}(a b c:Nat)(hx:ev env x=some (.int .u64 i))(hi:i=(a:Int))(hy:ev env y=some (.int .u64 j))(hj:j=(b:Int))(ha:a<18446744073709551616)(hb:0<b)(h:a/b=c):
    Any P env n ⟨d,.binOp .quo t x y ty,T,p,af,g⟩ (.int .u64 (c:Int)):=by
  subst hi hj h
  exact(Any.aao hx hy (by omega)).as (by rw[Int.natCast_ediv])
theorem Any.om {t ty:TypeId}{x y:Operand}{i j:Int}(a b c:Nat)(hx:ev env x=some (.int .u64 i))(hi:i=(a:Int))(hy:ev env y=some (.int .u64 j))(hj:j=(b:Int))(hb:0<b)(h:a%b=c):
    Any P env n ⟨d,.binOp .rem t x y ty,T,p,af,g⟩ (.int .u64 (c:Int)):=by
  subst hi hj h
  exact(Any.aap hx hy (by omega)).as (by rw[Int.natCast_emod])
theorem Any.Px {t ty:TypeId}{x y:Operand}{k':IntKind}{i j:Int}(a m c:Nat)(hx:ev env x=some (.int .u64 i))(hi:i=(a:Int))(hy:ev env y=some (.int k' j))(hj:j=(m:Int))(hm:m<=64)(h:(a*2^m)%18446744073709551616=c):
    Any P env n ⟨d,.binOp .shl t x y ty,T,p,af,g⟩ (.int .u64 (c:Int)):= .int hx hy fun w=>by
  subst hi hj h
  have b:¬((m:Int)<0):=by omega
  have f:min m IntKind.u64.bits=m:=Nat.min_eq_left hm
  have e:IntKind.u64.wrap ((a:Int)*2^m)=(((a*2^m)%18446744073709551616:Nat):Int):=by
    rw[<-r9,Int.natCast_mul,Int.natCast_pow];rfl
  simp only[binOp,Op.shift]
  rw[if_neg b]
  simp only[Int.toNat_natCast,f,e]
  rfl
theorem Any.qW {t ty:TypeId}{x y:Operand}{k k':IntKind}{i j:Int}(a m c:Nat)(hx:ev env x=some (.int k i))(ha:i=(a:Int))(hy:ev env y=some (.int k' j))(hj:j=(m:Int))(hm:m<=k.bits)(h:a/2^m=c):
    Any P env n ⟨d,.binOp .shr t x y ty,T,p,af,g⟩ (.int k (c:Int)):=
  (Any.Nq a m hx ha hy hj hm).as (by rw[Nat.shiftRight_eq_div_pow,h])
theorem mask32 (a:Nat):a&&&4294967295=a%4294967296:=Nat.and_two_pow_sub_one_eq_mod a 32
theorem LH (a:Nat):a&&&1=a%2:=Nat.and_two_pow_sub_one_eq_mod a 1
theorem Any.J5 {t ty:TypeId}{x y:Operand}{i j:Int}(a b c:Nat)(hx:ev env x=some (.int .u64 i))(hi:i=(a:Int))(hy:ev env y=some (.int .u64 j))(hj:j=(b:Int))(ha:a<18446744073709551616)(hb:b<18446744073709551616)(h:a&&&b=c):
    Any P env n ⟨d,.binOp .and t x y ty,T,p,af,g⟩ (.int .u64 (c:Int)):=(Any.XH a b hx hi hy hj ha hb).as (by rw[h])
theorem Any.orE {t ty:TypeId}{x y:Operand}{i j:Int}(a b c:Nat)(hx:ev env x=some (.int .u64 i))(hi:i=(a:Int))(hy:ev env y=some (.int .u64 j))(hj:j=(b:Int))(ha:a<18446744073709551616)(hb:b<18446744073709551616)(h:a|||b=c):
    Any P env n ⟨d,.binOp .or t x y ty,T,p,af,g⟩ (.int .u64 (c:Int)):=(Any.orN a b hx hi hy hj ha hb).as (by rw[h])
theorem Any.Py {t:TypeId}{x y:Operand}{s:ByteArray}{k:IntKind}{i:Int}(m:Nat)(b:UInt8)(ht:P.underlying t=some .string)(hx:ev env x=some (.string s))(hy:ev env y=some (.int k i))(hi:i=(m:Int))(hb:s[m]? =some b):
    Any P env n ⟨d,.index t x y,T,p,af,g⟩ (.int .u8 (b.toNat:Int)):=fun a ha w=>by
  subst hi
  simp[execOp,ha.eval hx,ha.eval hy,Instr.index,asIntOf,run_underlying ht,hb]
theorem Any.aar {t e len:TypeId}{x y:Operand}{xs:List (BitVec 8)}{k:IntKind}{i:Int}(m:Nat)(ht:P.underlying t=some (.array len e))(he:P.underlying e=some (.int .u8))(hs:Sz P e 1)(hl:xs.length=len)(hx:ev env x=some (.agg (xs.map jM).toArray))(hy:ev env y=some (.int k i))(hi:i=(m:Int))(hm:m<len):
    Any P env n ⟨d,.index t x y,T,p,af,g⟩ (jM (xs.getD m 0)):=fun a ha w=>by
  subst hi
  have b:(0<=(m:Int)/\(m:Int)<(len:Int)):=by omega
  have c:=jA (P:=P) (e:=e) (xs:=(xs.map jM).toArray) (o:=m) (v:=jM (xs.getD m 0)) ⟨_,he,rfl⟩ (LD xs (by omega)) w
  simp[execOp,ha.eval hx,ha.eval hy,Instr.index,asIntOf,run_underlying ht,b,hm,hs.run,c]
theorem SX (a b:Nat)(hb:b<256):a*256|||b=a*256+b:=by
  rw[Nat.mul_comm,show(256:Nat)=2^8 by decide]
  exact(Nat.two_pow_add_eq_or_of_lt (by omega) _).symm
theorem Pz (a b:Nat)(hb:b<256):a*256%18446744073709551616|||b=a*256%18446744073709551616+b:=by
  rw[show a*256%18446744073709551616=a%72057594037927936*256 by omega]
  exact SX _ b hb
end
theorem Fv {Y a b U e qh r:Nat}(hY:Y=a*4294967296+b)(hU:U<Y)(he:e<4294967296)(hi:qh*a+r=U)(ht:4294967296<=qh\/4294967296*r+e<qh*b):(U*4294967296+e)/Y<qh:=by
  have d:0<Y:=by omega
  rw[Nat.div_lt_iff_lt_mul d]
  rcases ht with h|h
  · have c:4294967296*Y<=qh*Y:=Nat.mul_le_mul_right _ h
    omega
  · have c:qh*Y=(qh*a)*4294967296+qh*b:=by rw[hY,Nat.mul_add,<-Nat.mul_assoc]
    rw[c]
    omega
theorem J6 {Y a b U e qh r:Nat}(hY:Y=a*4294967296+b)(hY0:0<Y)(hi:qh*a+r=U)(ht:qh*b<=4294967296*r+e):qh<=(U*4294967296+e)/Y:=by
  rw[Nat.le_div_iff_mul_le hY0]
  have c:qh*Y=(qh*a)*4294967296+qh*b:=by rw[hY,Nat.mul_add,<-Nat.mul_assoc]
  rw[c]
  omega
theorem AA {Y a b U e qh r:Nat}(hY:Y=a*4294967296+b)(hY0:0<Y)(hb:b<4294967296)(hi:qh*a+r=U)(hr:4294967296<=r)(hq:qh<=4294967296):qh<=(U*4294967296+e)/Y:=by
  refine J6 hY hY0 hi ?_
  have c:qh*b<=4294967296*b:=Nat.mul_le_mul_right _ hq
  have d:4294967296*b<=4294967296*4294967296:=by omega
  omega
theorem Eg {Y a b U:Nat}(hY:Y=a*4294967296+b)(ha:2147483648<=a)(hb:b<4294967296)(hU:U<Y):U/a<=4294967297:=by
  have h:U/a<4294967298:=by
    rw[Nat.div_lt_iff_lt_mul (by omega)]
    omega
  omega
theorem Eh {Y a b U e:Nat}(hY:Y=a*4294967296+b)(ha:0<a)(hU:U<Y)(he:e<4294967296):(U*4294967296+e)/Y<=U/a:=by
  have d:U/a*a+U%a=U:=by rw[Nat.mul_comm];exact Nat.div_add_mod U a
  have f:U%a<a:=Nat.mod_lt _ ha
  have h:(U*4294967296+e)/Y<U/a+1:=by
    rw[Nat.div_lt_iff_lt_mul (by omega)]
    have c:(U/a+1)*Y=(U/a*a+a)*4294967296+(U/a+1)*b:=by rw[hY,Nat.mul_add,<-Nat.mul_assoc,Nat.succ_mul]
    rw[c]
    omega
  omega
theorem LJ (U a:Nat)(hU:U<18446744073709551616):(U+(18446744073709551616-U/a*a))%18446744073709551616=U%a:=by
  have b:U/a*a+U%a=U:=by rw[Nat.mul_comm];exact Nat.div_add_mod U a
  omega
theorem Hu (Y N Q:Nat)(hQ:Q=N/Y)(hY:0<Y)(hY2:Y<=18446744073709551616):(N%18446744073709551616+(18446744073709551616-Q*Y%18446744073709551616))%18446744073709551616=N%Y:=by
  subst hQ
  have b:N/Y*Y+N%Y=N:=by rw[Nat.mul_comm];exact Nat.div_add_mod N Y
  have c:N%Y<Y:=Nat.mod_lt _ hY
  generalize N/Y*Y=p at*
  omega
end Go.Sx

