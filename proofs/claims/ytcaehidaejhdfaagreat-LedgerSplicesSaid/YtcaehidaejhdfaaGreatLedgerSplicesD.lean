/- LedgerSplices: for every input the law answers true and leaves its arguments as they were. -/
import Derived.Test.YtcaehidaejhdfaaGreatLedgerSplicesC
import Derived.WalkSpells
set_option linter.unusedVariables false
set_option linter.unusedSimpArgs false
namespace Go.Sx
open Go Go.RowKit

def lD (x:BitVec 8):Value:= .int .u8 (x.toNat:Int)
def kZ (x:BitVec 32):Value:= .int .u32 (x.toNat:Int)
theorem tL (l:List (BitVec 8)):∀u∈l.map lD,u.oneCell'=true:=fun u hu=>by obtain⟨x,_,rfl⟩:=List.mem_map.1 hu;rfl
theorem ou (l:List (BitVec 32)):∀u∈l.map kZ,u.oneCell'=true:=fun u hu=>by obtain⟨x,_,rfl⟩:=List.mem_map.1 hu;rfl
theorem wrap_u8 (i:Int):IntKind.u8.wrap i=i%256:=by simp[IntKind.wrap,IntKind.bits,IntKind.signed]
theorem wrap_u32 (i:Int):IntKind.u32.wrap i=i%4294967296:=by simp[IntKind.wrap,IntKind.bits,IntKind.signed]
theorem wrap_u64 (i:Int):IntKind.u64.wrap i=i%18446744073709551616:=by simp[IntKind.wrap,IntKind.bits,IntKind.signed]
theorem I7 (n:Nat):IntKind.u8.wrap (n:Int)=((BitVec.ofNat 8 n).toNat:Int):=by rw[wrap_u8,BitVec.toNat_ofNat];simp
theorem uV {n:Nat}(x:BitVec n):BitVec.ofInt n (x.toNat:Int)=x:=by rw[BitVec.ofInt_natCast];simp
section
variable {P:Program}{env:Env}{n:Nat}{d:Option Nat}{T:TypeId}{p:String}{af:Array Edge}{g:Option (Nat×Bool)}{w:World}
theorem Any.qH {t ty:TypeId}{x y:Operand}{a b:BitVec 32}(hx:ev env x=some (kZ a))(hy:ev env y=some (kZ b)):Any P env n ⟨d,.binOp .xor t x y ty,T,p,af,g⟩ (kZ (a^^^b)):=
  .int hx hy fun w=>by
    have h:IntKind.u32.wrap ((a^^^b).toNat:Int)=((a^^^b).toNat:Int):=by rw[wrap_u32];have:=(a^^^b).isLt;omega
    simp only[binOp,Op.intBits,IntKind.bits,uV]
    simp only[ne_eq,not_true_eq_false,if_false,kZ]
    exact congrArg (fun i=>Result.ok (Value.int .u32 i) w) h
theorem Any.CQ {t ty:TypeId}{x y:Operand}{a b:BitVec 32}(hx:ev env x=some (kZ a))(hy:ev env y=some (kZ b)):Any P env n ⟨d,.binOp .and t x y ty,T,p,af,g⟩ (kZ (a&&&b)):=
  .int hx hy fun w=>by
    have h:IntKind.u32.wrap ((a&&&b).toNat:Int)=((a&&&b).toNat:Int):=by rw[wrap_u32];have:=(a&&&b).isLt;omega
    simp only[binOp,Op.intBits,IntKind.bits,uV]
    simp only[ne_eq,not_true_eq_false,if_false,kZ]
    exact congrArg (fun i=>Result.ok (Value.int .u32 i) w) h
theorem Any.FB {t ty:TypeId}{x y:Operand}{a b:BitVec 32}(hx:ev env x=some (kZ a))(hy:ev env y=some (kZ b)):Any P env n ⟨d,.binOp .or t x y ty,T,p,af,g⟩ (kZ (a|||b)):=
  .int hx hy fun w=>by
    have h:IntKind.u32.wrap ((a|||b).toNat:Int)=((a|||b).toNat:Int):=by rw[wrap_u32];have:=(a|||b).isLt;omega
    simp only[binOp,Op.intBits,IntKind.bits,uV]
    simp only[ne_eq,not_true_eq_false,if_false,kZ]
    exact congrArg (fun i=>Result.ok (Value.int .u32 i) w) h
theorem Any.add32 {t ty:TypeId}{x y:Operand}{a b:BitVec 32}(hx:ev env x=some (kZ a))(hy:ev env y=some (kZ b)):Any P env n ⟨d,.binOp .add t x y ty,T,p,af,g⟩ (kZ (a+b)):=
  .int hx hy fun w=>by
    have h:IntKind.u32.wrap ((a.toNat:Int)+(b.toNat:Int))=((a+b).toNat:Int):=by rw[wrap_u32,BitVec.toNat_add];omega
    simp[binOp,Op.intArith,kZ,h]
theorem Any.CR {t ty:TypeId}{x y:Operand}{a:BitVec 32}{k:IntKind}{i:Int}(m:Nat)(hx:ev env x=some (kZ a))(hy:ev env y=some (.int k i))(hi:i=(m:Int))(hm:m<=32):Any P env n ⟨d,.binOp .shl t x y ty,T,p,af,g⟩ (kZ (a<<<m)):=
  .int hx hy fun w=>by
    subst hi
    have h:IntKind.u32.wrap ((a.toNat:Int)*2^m)=((a<<<m).toNat:Int):=by
      rw[wrap_u32,BitVec.toNat_shiftLeft,Nat.shiftLeft_eq];simp
    have b:¬((m:Int)<0):=by omega
    have c:min m IntKind.u32.bits=m:=Nat.min_eq_left hm
    simp[binOp,kZ,h]
theorem Any.CS {t ty:TypeId}{x y:Operand}{a:BitVec 32}{k:IntKind}{i:Int}(m:Nat)(hx:ev env x=some (kZ a))(hy:ev env y=some (.int k i))(hi:i=(m:Int))(hm:m<=32):Any P env n ⟨d,.binOp .shr t x y ty,T,p,af,g⟩ (kZ (a>>>m)):=
  .int hx hy fun w=>by
    subst hi
    have h:(a.toNat:Int).fdiv (2^m)=((a>>>m).toNat:Int):=by
      rw[BitVec.toNat_ushiftRight,Nat.shiftRight_eq_div_pow,Int.fdiv_eq_ediv_of_nonneg _ (Int.le_of_lt (Int.pow_pos (by decide)))];simp
    have b:¬((m:Int)<0):=by omega
    have c:min m IntKind.u32.bits=m:=Nat.min_eq_left hm
    simp only[binOp,Op.shift,kZ]
    rw[if_neg b]
    simp only[Int.toNat_natCast,c,h]
    rfl

theorem Any.Ph {t ty:TypeId}{x y:Operand}{k k':IntKind}{i j:Int}(a m:Nat)(hx:ev env x=some (.int k i))(ha:i=(a:Int))(hy:ev env y=some (.int k' j))(hj:j=(m:Int))(hm:m<=k.bits):
    Any P env n ⟨d,.binOp .shr t x y ty,T,p,af,g⟩ (.int k ((a>>>m:Nat):Int)):=
  .int hx hy fun w=>by
    subst ha hj
    have h:(a:Int).fdiv (2^m)=((a>>>m:Nat):Int):=by
      rw[Nat.shiftRight_eq_div_pow,Int.fdiv_eq_ediv_of_nonneg _ (Int.le_of_lt (Int.pow_pos (by decide)))];simp
    have b:¬((m:Int)<0):=by omega
    have c:min m k.bits=m:=Nat.min_eq_left hm
    simp only[binOp,Op.shift]
    rw[if_neg b]
    simp[c,h]
theorem Rd.toU8 {s t:TypeId}{x:Operand}{k:IntKind}{i:Int}(a:Nat)(hs:(P.underlying s).isSome=true)(ht:P.underlying t=some (.int .u8))(hx:ev env x=some (.int k i))(ha:i=(a:Int)):
    Rd P w env n ⟨d,.convert s t x,T,p,af,g⟩ (lD (BitVec.ofNat 8 a)):=by
  subst ha
  exact Rd.vv hs ht hx (I7 a)
theorem Rd.xL {s t:TypeId}{x:Operand}{a:BitVec 8}(hs:(P.underlying s).isSome=true)(ht:P.underlying t=some (.int .u32))(hx:ev env x=some (lD a)):
    Rd P w env n ⟨d,.convert s t x,T,p,af,g⟩ (kZ (a.setWidth 32)):=
  Rd.vv hs ht hx (by rw[wrap_u32];have:=a.isLt;simp)
theorem Rd.Pj {s t:TypeId}{x:Operand}{a:BitVec 32}(hs:(P.underlying s).isSome=true)(ht:P.underlying t=some (.int .u8))(hx:ev env x=some (kZ a)):
    Rd P w env n ⟨d,.convert s t x,T,p,af,g⟩ (lD (a.setWidth 8)):=
  Rd.vv hs ht hx (by rw[wrap_u8,BitVec.toNat_setWidth];simp)
theorem Rd.Vj {s t:TypeId}{x:Operand}{a:BitVec 8}(hs:(P.underlying s).isSome=true)(ht:P.underlying t=some (.int .u64))(hx:ev env x=some (lD a)):
    Rd P w env n ⟨d,.convert s t x,T,p,af,g⟩ (.int .u64 (a.toNat:Int)):=
  Rd.vv hs ht hx (IntWalk.u64_in _ (by have:=a.isLt;omega))
theorem Rd.Su {s t:TypeId}{x:Operand}{k k':IntKind}{i:Int}(hs:(P.underlying s).isSome=true)(ht:P.underlying t=some (.int k'))(hx:ev env x=some (.int k i))(h:k'.wrap i=i):
    Rd P w env n ⟨d,.convert s t x,T,p,af,g⟩ (.int k' i):=Rd.vv hs ht hx h
theorem qZ (a:Nat)(ha:a<18446744073709551616):(BitVec.ofInt 64 (a:Int)).toNat=a:=by
  rw[BitVec.ofInt_natCast,BitVec.toNat_ofNat];exact Nat.mod_eq_of_lt (by omega)
theorem Any.Xf {t ty:TypeId}{x y:Operand}{i j:Int}(a b:Nat)(hx:ev env x=some (.int .u64 i))(hi:i=(a:Int))(hy:ev env y=some (.int .u64 j))(hj:j=(b:Int))(ha:a<18446744073709551616)(hb:b<18446744073709551616):
    Any P env n ⟨d,.binOp .and t x y ty,T,p,af,g⟩ (.int .u64 ((a&&&b:Nat):Int)):=
  .int hx hy fun w=>by
    subst hi hj
    have hlt:a&&&b<2^64:=Nat.and_lt_two_pow _ (by omega)
    have h:IntKind.u64.wrap (((BitVec.ofInt 64 (a:Int)&&&BitVec.ofInt 64 (b:Int)).toNat:Nat):Int)=((a&&&b:Nat):Int):=by
      rw[BitVec.toNat_and,qZ a ha,qZ b hb,wrap_u64];omega
    simp only[binOp,Op.intBits,IntKind.bits,ne_eq,not_true_eq_false,if_false]
    exact congrArg (fun i=>Result.ok (Value.int .u64 i) w) h
theorem Any.orN {t ty:TypeId}{x y:Operand}{i j:Int}(a b:Nat)(hx:ev env x=some (.int .u64 i))(hi:i=(a:Int))(hy:ev env y=some (.int .u64 j))(hj:j=(b:Int))(ha:a<18446744073709551616)(hb:b<18446744073709551616):
    Any P env n ⟨d,.binOp .or t x y ty,T,p,af,g⟩ (.int .u64 ((a|||b:Nat):Int)):=
  .int hx hy fun w=>by
    subst hi hj
    have hlt:a|||b<2^64:=Nat.or_lt_two_pow (by omega) (by omega)
    have h:IntKind.u64.wrap (((BitVec.ofInt 64 (a:Int)|||BitVec.ofInt 64 (b:Int)).toNat:Nat):Int)=((a|||b:Nat):Int):=by
      rw[BitVec.toNat_or,qZ a ha,qZ b hb,wrap_u64];omega
    simp only[binOp,Op.intBits,IntKind.bits,ne_eq,not_true_eq_false,if_false]
    exact congrArg (fun i=>Result.ok (Value.int .u64 i) w) h
theorem Any.ZW {t ty:TypeId}{x y:Operand}{a b:Int}(hx:ev env x=some (.int .u64 a))(hy:ev env y=some (.int .u64 b))(hb:0<=a-b/\a-b<=18446744073709551615):
    Any P env n ⟨d,.binOp .sub t x y ty,T,p,af,g⟩ (.int .u64 (a-b)):= .int hx hy fun w=>by simp[binOp,Op.intArith,IntWalk.u64_in _ hb]
theorem Any.ZX {t ty:TypeId}{x y:Operand}{a b:Int}(hx:ev env x=some (.int .u64 a))(hy:ev env y=some (.int .u64 b))(hb:0<=a*b/\a*b<=18446744073709551615):
    Any P env n ⟨d,.binOp .mul t x y ty,T,p,af,g⟩ (.int .u64 (a*b)):= .int hx hy fun w=>by simp[binOp,Op.intArith,IntWalk.u64_in _ hb]
theorem Any.ZY {t ty:TypeId}{x y:Operand}{a b:Int}(hx:ev env x=some (.int .u64 a))(hy:ev env y=some (.int .u64 b))(hb:0<=a/\a<=18446744073709551615/\1<=b):
    Any P env n ⟨d,.binOp .quo t x y ty,T,p,af,g⟩ (.int .u64 (a/b)):= .int hx hy fun w=>by
  have:b≠0:=by omega
  simp[binOp,Op.intDiv,this,IntWalk.u64_quo _ _ hb]
theorem Any.ZZ {t ty:TypeId}{x y:Operand}{a b:Int}(hx:ev env x=some (.int .u64 a))(hy:ev env y=some (.int .u64 b))(hb:0<=a/\1<=b):
    Any P env n ⟨d,.binOp .rem t x y ty,T,p,af,g⟩ (.int .u64 (a%b)):= .int hx hy fun w=>by
  have:b≠0:=by omega
  simp[binOp,Op.intDiv,this,IntWalk.rem_in _ b hb.1]
theorem Any.isNil {t e ty:TypeId}{x:Operand}{A:Option Addr}{l c:Nat}(ht:P.underlying t=some (.slice e))(hx:ev env x=some (.slice A l c)):
    Any P env n ⟨d,.binOp .eql t x (.const (.slice none 0 0)) ty,T,p,af,g⟩ (.bool A.isNone):=
  .bin hx rfl (fun _=>rfl) fun w=>Lib.run_eql_slice_nil w t e A l c 0 0 ht
variable {K:Value->World->Prop}
theorem Ef.oH {t e s b:Nat}{z:Value}(ht:P.underlying t=some (.slice e))(hel:El P e s b z)
    (h:∀gb w',w.heap.size<=gb->jL w' gb e #[]->Le w w'->K (.slice (some ⟨gb,0,none⟩) 0 0) w'):Ef P env n ⟨d,.buildSlice t 0 #[],T,p,af,g⟩ w K:=by
  refine .of_run (v:= .slice (some ⟨w.heap.size,0,none⟩) 0 0) (w':=w.alloc (.cells #[] e)) (fun a ha=>?_) (h _ _ (Nat.le_refl _) (jL.new w e _) (Le.alloc w _))
  simp[execOp,Instr.buildSlice,run_underlying ht,hel.sz.run,Instr.fill,newRow,show Array.range 0=#[]from rfl]
theorem Any.lK {t e:TypeId}{x y:Operand}{A:Option Addr}{len cap:Nat}{k:IntKind}{i:Int}(j:Nat)(ht:P.underlying t=some (.slice e))(hs:Sz P e 1)(hx:ev env x=some (.slice A len cap))(hy:ev env y=some (.int k i))
    (hA:A.isSome=true)(hi:i=(j:Int))(hj:j<len):Any P env n ⟨d,.indexAddr t x y,T,p,af,g⟩ (ptr A j):=by
  have:=Any.lL (P:=P) (n:=n) (d:=d) (T:=T) (p:=p) (af:=af) (g:=g) j ht hs hx hy hA hi hj
  rwa [Nat.mul_one]at this
theorem Any.Xg {t e:TypeId}{x y:Operand}{gb len cap:Nat}{k:IntKind}{i:Int}(j:Nat)(ht:P.underlying t=some (.slice e))(hs:Sz P e 1)(hx:ev env x=some (.slice (some ⟨gb,0,none⟩) len cap))(hy:ev env y=some (.int k i))
    (hi:i=(j:Int))(hj:j<len):Any P env n ⟨d,.indexAddr t x y,T,p,af,g⟩ (.pointer (some ⟨gb,j,none⟩)):=by
  have:=Any.ZT (P:=P) (n:=n) (d:=d) (T:=T) (p:=p) (af:=af) (g:=g) j ht hs hx hy hi hj
  rwa [Nat.mul_one,Nat.zero_add]at this
theorem Any.l5 {t e len:Nat}{x y:Operand}{gb:Nat}{k:IntKind}{i:Int}(j:Nat)(ht:P.underlying t=some (.array len e))(hs:Sz P e 1)(hx:ev env x=some (.pointer (some ⟨gb,0,none⟩)))(hy:ev env y=some (.int k i))
    (hi:i=(j:Int))(hj:j<len):Any P env n ⟨d,.indexAddr t x y,T,p,af,g⟩ (.pointer (some ⟨gb,j,none⟩)):=by
  have:=Any.mP (P:=P) (n:=n) (d:=d) (T:=T) (p:=p) (af:=af) (g:=g) j ht hs hx hy hi hj
  rwa [Nat.mul_one,Nat.zero_add]at this

def Pk (env:Env):List (Nat×Operand)->Option (List (Nat×Value))
  |[]=>some []
  |(i,x)::xs=>match ev env x,Pk env xs with
    |some v,some vs=>some ((i,v)::vs)
    |_,_=>none
theorem tK.Az {a:Act}{n:Nat}{env:Env}(h:tK a n env):∀{xs:List (Nat×Operand)} {vs:List (Nat×Value)},Pk env xs=some vs->xs.map (fun(i,x)=>(i,a.eval x))=vs
  |[],vs,hv=>by simp[Pk]at hv;simp[hv]
  |(i,x)::xs,vs,hv=>by
    simp only[Pk]at hv
    split at hv
    · rename_i v vs' h1 h2
      injection hv with hv
      subst hv
      simp[h.eval h1,h.Az h2]
    · cases hv
theorem Any.mZ {t e len s:Nat}{z:Value}{parts:Array (Nat×Operand)}{vs:List (Nat×Value)}{cells:Array Value}(hu:P.underlying t=some (.array len e))(hs:Sz P e s)(hz:Zr P t z)(hp:Pk env parts.toList=some vs)
    (hf:Instr.fill (fun i=>some (i*s,s)) z.cells vs=some cells):Any P env n ⟨d,.build t parts,T,p,af,g⟩ (.agg cells):=fun a ha w=>by
  have hparts:parts.map (fun(i,x)=>(i,a.eval x))=vs.toArray:=by rw[<-ha.Az hp];apply Array.ext';simp
  simp[execOp,Instr.build,hz.run,run_underlying hu,hs.run,hparts,hf]
def yZ:Nat->List Value->List (Nat×Value)
  |_,[]=>[]
  |k,v::vs=>(k,v)::yZ (k+1) vs
def rJ (vs:List Value):List Value:=(vs.map fun v=>v.cells.toList).flatten
def Vk (place:Nat->Option (Nat×Nat)):Nat->Nat->List Value->Prop
  |_,_,[]=>True
  |k,off,v::vs=>place k=some (off,v.cells.size)/\Vk place (k+1) (off+v.cells.size) vs
theorem xM:∀(cs:List Value) (k:Nat) (off:Nat) (pre post:List Value),pre.length=off+k->cs.length<=post.length->
    (cs.zipIdx k).foldl (fun(acc:Array Value) (x:Value×Nat)=>acc.setIfInBounds (off+x.2) x.1) (pre++post).toArray=(pre++cs++post.drop cs.length).toArray
  |[],_,_,_,_,_,_=>by simp
  |c::cs,k,off,pre,post,h1,h2=>by
    cases post with
    |nil=>simp at h2
    |cons q post=>
      simp only[List.zipIdx_cons,List.foldl_cons]
      have e:((pre++q::post).toArray.setIfInBounds (off+k) c)=((pre++[c])++post).toArray:=by
        apply Array.ext'
        rw[Array.toList_setIfInBounds,<-h1]
        simp
      rw[e,xM cs (k+1) off (pre++[c]) post (by simp[h1];omega) (by simpa using h2)]
      simp
theorem AA (place:Nat->Option (Nat×Nat)):∀(vs:List Value) (k:Nat) (pre post:List Value),Vk place k pre.length vs->(rJ vs).length<=post.length->
    Instr.fill place (pre++post).toArray (yZ k vs)=some (pre++rJ vs++post.drop (rJ vs).length).toArray
  |[],_,_,_,_,_=>by simp[yZ,Instr.fill,rJ]
  |v::vs,k,pre,post,h1,h2=>by
    obtain⟨hp,hc⟩:=h1
    have hl:v.cells.size+(rJ vs).length<=post.length:=by simpa[rJ]using h2
    have hf:(v.cells.zipIdx.foldl (fun(cs:Array Value) (x:Value×Nat)=>cs.setIfInBounds (pre.length+x.2) x.1) (pre++post).toArray)=(pre++v.cells.toList++post.drop v.cells.size).toArray:=by
      have:=xM v.cells.toList 0 pre.length pre post (by simp) (by simp;omega)
      rw[<-Array.foldl_toList]
      simpa using this
    simp only[yZ,Instr.fill,hp]
    rw[if_neg (by simp;omega)]
    have hf':Array.foldl (fun cs x=>match x with |(c,j)=>cs.setIfInBounds (pre.length+j) c) (pre++post).toArray v.cells.zipIdx=(pre++v.cells.toList++post.drop v.cells.size).toArray:=hf
    rw[hf',AA place vs (k+1) (pre++v.cells.toList) (post.drop v.cells.size) (by simpa using hc) (by simp;omega)]
    simp[rJ]
theorem vQ:∀(vs:List Value),(∀v∈vs,v.oneCell'=true)->rJ vs=vs
  |[],_=>rfl
  |v::vs,h=>by
    have hc:v.cells=#[v]:=by
      have:=h v (by simp)
      cases v<;>first|rfl|cases this
    have ih:=vQ vs (fun u hu=>h u (by simp[hu]))
    unfold rJ at ih ⊢
    rw[List.map_cons,List.flatten_cons,ih,hc]
    rfl
theorem xN (s:Nat):∀(vs:List Value) (k:Nat),(∀v∈vs,v.cells.size=s)->Vk (fun i=>some (i*s,s)) k (k*s) vs
  |[],_,_=>trivial
  |v::vs,k,h=>⟨by rw[h v (by simp)],by rw[h v (by simp),<-Nat.succ_mul];exact xN s vs (k+1) (fun u hu=>h u (by simp[hu]))⟩
theorem wM (s:Nat):∀(vs:List Value),(∀v∈vs,v.cells.size=s)->(rJ vs).length=vs.length*s
  |[],_=>by simp[rJ]
  |v::vs,h=>by
    have ih:=wM s vs (fun u hu=>h u (by simp[hu]))
    have hv:=h v (by simp)
    unfold rJ at ih ⊢
    rw[List.map_cons,List.flatten_cons,List.length_append,ih,Array.length_toList,hv,List.length_cons,Nat.succ_mul,Nat.add_comm]
theorem cells_one {v:Value}(h:v.oneCell'=true):v.cells.size=1:=by cases v<;>first|rfl|cases h
theorem Any.Pm {t e len:Nat}{zs:Array Value}{parts:Array (Nat×Operand)}(vs:List Value)(hu:P.underlying t=some (.array len e))(hs:Sz P e 1)(hz:Zr P t (.agg zs))(hp:Pk env parts.toList=some (yZ 0 vs))
    (h1:∀v∈vs,v.oneCell'=true)(hl1:zs.size=len)(hl2:vs.length=len):Any P env n ⟨d,.build t parts,T,p,af,g⟩ (.agg vs.toArray):=
  Any.mZ hu hs hz hp (by
    have hl:zs.size=vs.length:=by rw[hl1,hl2]
    have hf:=AA (fun i=>some (i*1,1)) vs 0 [] zs.toList (by simpa using xN 1 vs 0 (fun v hv=>cells_one (h1 v hv))) (by rw[vQ vs h1];simp[hl])
    rw[vQ vs h1]at hf
    simpa[Value.cells,hl,List.drop_of_length_le]using hf)
theorem E.I8 {fn:Func}{R:Ending->World->Prop}{t ty sz:Nat}{gb:Nat}{tb:TypeId}{cs:Array Value}(hr:fn.results=#[.cell t ty])(hv:look env t=some (.pointer (some ⟨gb,0,none⟩)))(hB:jL w gb tb cs)(hag:mq P ty sz)(hsz:cs.size=sz)
    (h:R (.returned (.agg cs)) w):E (bodyPost P fn R) n .ret env w:=fun a ha=>by
  subst hsz
  obtain⟨dd,b,d,c⟩:=hag
  exact bodyPost_ret (results_cell_row hr a.tmps w gb tb cs (0,0) dd (by simp[ha.2.2 t _ hv]) hB b (by cases dd<;>simp_all) c) ha.1 h

def Sb (w:World)(A:Option Addr)(n:Nat)(xs:List (BitVec 8)):Prop:=Sl w 1 A n (xs.map lD)
theorem Sb.le {w w':World}{A:Option Addr}{n:Nat}{xs:List (BitVec 8)}(h:Sb w A n xs)(hl:Le w w'):Sb w' A n xs:=Sl.le h hl
theorem Sb.len {w:World}{A:Option Addr}{n:Nat}{xs:List (BitVec 8)}(h:Sb w A n xs):xs.length=n:=by have:=h.1;simpa using this
theorem Sb.isSome {w:World}{A:Option Addr}{n:Nat}{xs:List (BitVec 8)}(h:Sb w A n xs)(hn:0<n):A.isSome=true:=Sl.isSome h hn (by decide)
theorem Sb.cut {w:World}{A:Option Addr}{n:Nat}{xs:List (BitVec 8)}(h:Sb w A n xs)(cap l m:Nat)(hl:l<=m)(hm:m<=n)(hc:n<=cap):Sb w (uq A cap l 1) (m-l) ((xs.drop l).take (m-l)):=by
  have:=Sl.rY h cap l m hl hm hc
  unfold Sb
  rwa [List.map_take,List.map_drop]
theorem Sb.sI {w:World}{A:Option Addr}{n:Nat}{xs:List (BitVec 8)}(h:Sb w A n xs)(cap l:Nat)(hl:l<=n)(hc:n<=cap):Sb w (uq A cap l 1) (n-l) (xs.drop l):=by
  have:=h.cut cap l n hl (Nat.le_refl _) hc
  rwa [List.take_of_length_le (by rw[List.length_drop,h.len];exact Nat.le_refl _)]at this
theorem Sb.Fz {w:World}{A:Option Addr}{n:Nat}{xs:List (BitVec 8)}(h:Sb w A n xs)(m:Nat)(hm:m<=n):Sb w A m (xs.take m):=by
  have:=h.cut n 0 m (Nat.zero_le _) hm (Nat.le_refl _)
  rwa [yz,Nat.sub_zero,List.drop_zero]at this
theorem I9 (xs:List (BitVec 8)){k:Nat}(h:k<xs.length):(xs.map lD)[k]? =some (lD (xs.getD k 0)):=by simp[h,List.getD]
theorem qg (xs:List (BitVec 32)){k:Nat}(h:k<xs.length):(xs.map kZ)[k]? =some (kZ (xs.getD k 0)):=by simp[h,List.getD]
theorem nR (xs:List (BitVec 32)){k:Nat}(h:k<xs.length):(xs.map kZ).toArray[k]? =some (kZ (xs.getD k 0)):=by simp[h,List.getD]
theorem Ja (xs:List (BitVec 8)){k:Nat}(h:k<xs.length):(xs.map lD).toArray[k]? =some (lD (xs.getD k 0)):=by simp[h,List.getD]
theorem LK (l:List (BitVec 32))(m:Nat)(z:BitVec 32){k:Nat}(h:k<l.length):((l++List.replicate m z).map kZ).toArray[k]? =some (kZ (l.getD k 0)):=by simp[h,List.getD,List.getElem?_append_left]
theorem Own.sb {w:World}{base e:Nat}{A:Option Addr}{n c:Nat}{xs:List (BitVec 8)}(h:Own w base e 1 A n c (xs.map lD)):Sb w A n xs:=h.sl
theorem Sb.src {w:World}{A:Option Addr}{m:Nat}{xs:List (BitVec 8)}{t e:TypeId}(h:Sb w A m xs)(ht:P.underlying t=some (.slice e))(c:Nat):Src P 1 t (.slice A m c) m (xs.map lD) w:=Sl.src h ht (by decide) c (tL xs)
theorem jL.sb {w:World}{gb:Nat}{t:TypeId}{xs:List (BitVec 8)}(h:jL w gb t (xs.map lD).toArray){k:Nat}(hk:xs.length=k):Sb w (some ⟨gb,0,none⟩) k xs:=by
  have:=h.sl (s:=1) (n:=k) (by simp[hk])
  simpa[Sb]using this
theorem Jb {α:Type}(f:α->Value)(l:List α)(z x:α)(N k:Nat)(hl:l.length=k)(hk:k<N):
    (((l++List.replicate (N-k) z).map f).toArray).setIfInBounds k (f x)=(((l++[x])++List.replicate (N-(k+1)) z).map f).toArray:=by
  apply Array.ext'
  rw[Array.toList_setIfInBounds]
  simp only[List.map_append,List.map_replicate]
  rw[List.set_append,if_neg (by simp[hl]),List.length_map,hl,Nat.sub_self,show N-k=(N-(k+1))+1 by omega,List.replicate_succ,List.set_cons_zero]
  simp
theorem jL.FC {w:World}{gb:Nat}{e t e':TypeId}{v:Value}(h:jL w gb e #[v])(ht:P.underlying t=some (.slice e'))(hv:v.oneCell'=true):Src P 1 t (.slice (some ⟨gb,0,none⟩) 1 1) 1 [v] w:=
  (h.sl (s:=1) (n:=1) rfl).src ht (by decide) 1 (fun u hu=>by simp at hu;subst hu;exact hv)
theorem pM {A:Option Addr}{n n' c:Nat}(h:n=n'):Value.slice A n c=Value.slice A n' c:=by rw[h]
theorem int_eq {k:IntKind}{a b:Int}(h:a=b):Value.int k a=Value.int k b:=by rw[h]
theorem Own.cast {w:World}{base e s:Nat}{A:Option Addr}{n n' c:Nat}{xs xs':List Value}(h:Own w base e s A n c xs)(hn:n=n')(hx:xs=xs'):Own w base e s A n' c xs':=by subst hn hx;exact h
theorem jL.cast {w:World}{gb:Nat}{t:TypeId}{cs cs':Array Value}(h:jL w gb t cs)(hc:cs=cs'):jL w gb t cs':=hc▸h
theorem Sb.cast {w:World}{A:Option Addr}{n n':Nat}{xs xs':List (BitVec 8)}(h:Sb w A n xs)(hn:n=n')(hx:xs=xs'):Sb w A n' xs':=by subst hn hx;exact h
theorem Sb.ch {w w':World}{A:Option Addr}{n:Nat}{xs:List (BitVec 8)}{r:Option Nat}(h:Sb w A n xs)(hc:Ch w w' r)(hne:∀g,r=some g->lU A≠some g):Sb w' A n xs:=Sl.ch h hc hne
def Parts (w:World)(vs:List Value)(ps:List (List (BitVec 8))):Prop:=vs.length=ps.length/\∀(i:Nat) (v:Value) (q:List (BitVec 8)),vs[i]? =some v->ps[i]? =some q->∃A c,v=Value.slice A q.length c/\Sb w A q.length q
theorem Parts.le {w w':World}{vs:List Value}{ps:List (List (BitVec 8))}(h:Parts w vs ps)(hl:Le w w'):Parts w' vs ps:=
  ⟨h.1,fun i v q b d=>let⟨A,c,e,hs⟩:=h.2 i v q b d;⟨A,c,e,hs.le hl⟩⟩
theorem Parts.nil (w:World):Parts w [] []:=⟨rfl,fun i v q h=>by simp at h⟩
theorem Parts.cons {w:World}{vs:List Value}{ps:List (List (BitVec 8))}{A:Option Addr}{n c:Nat}{q:List (BitVec 8)}(hs:Sb w A n q)(h:Parts w vs ps):Parts w (Value.slice A n c::vs) (q::ps):=by
  have hn:q.length=n:=hs.len
  subst hn
  refine⟨by simp[h.1],fun i v r b d=>?_⟩
  cases i with
  |zero=>simp at b d;subst b d;exact⟨A,c,rfl,hs⟩
  |succ i=>exact h.2 i v r (by simpa using b) (by simpa using d)
theorem y5 {t:TypeId}{dd:TypeDesc}(h:P.underlying t=some dd):(P.underlying t).isSome=true:=by rw[h];rfl
end
end Go.Sx

namespace Go.Sx
open Go Go.RowKit
section
variable {P:Program}

def Ad (P:Program)(d:Nat)(t:TypeId)(x y:Value)(b:Bool):Prop:=∀w:World,(Op.equalIn d t x y).run P w= .ok b w
theorem Ad.int {d:Nat}{t:TypeId}{k:IntKind}(a b:Int)(h:P.underlying t=some (.int k)):Ad P (d+1) t (.int k a) (.int k b) (decide (a=b)):=fun w=>by
  rw[run_equalIn_int w d t k k a b h];rfl
theorem Ad.bool {d:Nat}{t:TypeId}(a b:Bool)(h:P.underlying t=some .bool):Ad P (d+1) t (.bool a) (.bool b) (a==b):=fun w=>run_equalIn_bool w d t a b h
theorem Ad.u8 {d:Nat}{t:TypeId}(a b:BitVec 8)(h:P.underlying t=some (.int .u8)):Ad P (d+1) t (lD a) (lD b) (decide (a=b)):=fun w=>by
  have:=Ad.int (d:=d) (a.toNat:Int) (b.toNat:Int) h w
  rw[show decide ((a.toNat:Int)=(b.toNat:Int))=decide (a=b)from decide_eq_decide.2 ⟨fun h=>BitVec.eq_of_toNat_eq (by omega),fun h=>by rw[h]⟩]at this
  exact this

theorem AB (body:Nat->Sem Bool)(r:Nat->Bool):∀(l:List Nat) (w:World),(∀i∈l,∀w,(body i).run P w= .ok (r i) w)->
    (forIn (m:=Sem) l ((none,()):Option Bool×Unit) fun i _=>do
      let q <-body i
      if(!q)=true then pure (ForInStep.done (some false,()))else pure (ForInStep.yield (none,()))).run P w= .ok (if l.all r then(none,())else(some false,())) w
  |[],w,_=>by simp
  |i::l,w,h=>by
    have ih:=AB body r l w (fun j hj=>h j (by simp[hj]))
    simp only[List.forIn_cons,Sem.run_bind,h i (by simp) w,Result.andThen_ok]
    cases hr:r i
    · simp[hr]
    · simp only[Bool.not_true,Bool.false_eq_true,if_false,Sem.run_pure,Result.andThen_ok,List.all_cons,hr,Bool.true_and]
      exact ih

theorem Ad.arr {d t e len s:Nat}{xs ys:Array Value}(r:Nat->Bool)(a b:Nat->Value)(hu:P.underlying t=some (.array len e))(hs:Sz P e s)(ha:∀i,i<len->∀w,(part e xs (i*s)).run P w= .ok (a i) w)
    (hb:∀i,i<len->∀w,(part e ys (i*s)).run P w= .ok (b i) w)(hr:∀i,i<len->Ad P d e (a i) (b i) (r i)):Ad P (d+1) t (.agg xs) (.agg ys) ((List.range len).all r):=fun w=>by
  simp only[Op.equalIn,Sem.run_bind,run_underlying hu,Result.andThen_ok,hs.run,Std.Legacy.Range.forIn_eq_forIn_range']
  have h:=AB (P:=P) (fun i=>do let x <-part e xs (i*s);let y <-part e ys (i*s);Op.equalIn d e x y) r (List.range len) w (fun i hi w=>by
    have hi':i<len:=by simpa using hi
    simp[ha i hi' w,hb i hi' w,hr i hi' w])
  have e1:List.range' ([:len]:Std.Legacy.Range).start ([:len]:Std.Legacy.Range).size ([:len]:Std.Legacy.Range).step=List.range len:=by
    simp[Std.Legacy.Range.size,List.range_eq_range']
  rw[e1]
  have h':(forIn (m:=Sem) (List.range len) ((none,()):Option Bool×Unit) fun i _=>do
      let x <-part e xs (i*s)
      let y <-part e ys (i*s)
      let q <-Op.equalIn d e x y
      if(!q)=true then pure (ForInStep.done (some false,()))else pure (ForInStep.yield (none,()))).run P w= .ok (if(List.range len).all r then(none,())else(some false,())) w:=by
    rw[<-h]
    congr 2
    funext i _
    simp only[bind_assoc]
  rw[h']
  cases(List.range len).all r<;>simp
theorem mr {e:Nat}{xs:Array Value}{o:Nat}{v:Value}(he:lV P e)(hv:xs[o]? =some v)(w:World):(part e xs o).run P w= .ok v w:=by simp[part,he.run,hv]
theorem all_range_eq (xs ys:List (BitVec 8))(len:Nat)(hx:xs.length=len)(hy:ys.length=len):((List.range len).all fun i=>decide (xs.getD i 0=ys.getD i 0))=decide (xs=ys):=by
  rw[Bool.eq_iff_iff]
  simp only[List.all_eq_true,List.mem_range,decide_eq_true_eq]
  constructor
  · intro h
    apply List.ext_getElem (by omega)
    intro i b c
    have:=h i (by omega)
    simpa[List.getD,b,c]using this
  · rintro rfl i _;rfl
theorem Ad.bytes {d t e len:Nat}(xs ys:List (BitVec 8))(hu:P.underlying t=some (.array len e))(hs:Sz P e 1)(he:P.underlying e=some (.int .u8))(hx:xs.length=len)(hy:ys.length=len):
    Ad P (d+2) t (.agg (xs.map lD).toArray) (.agg (ys.map lD).toArray) (decide (xs=ys)):=by
  rw[<-all_range_eq xs ys len hx hy]
  have hna:lV P e:=⟨_,he,rfl⟩
  exact Ad.arr _ (fun i=>lD (xs.getD i 0)) (fun i=>lD (ys.getD i 0)) hu hs (fun i hi w=>mr hna (by rw[Nat.mul_one];exact Ja xs (by omega)) w) (fun i hi w=>mr hna (by rw[Nat.mul_one];exact Ja ys (by omega)) w)
    (fun i _=>Ad.u8 _ _ he)

variable {env:Env}{n:Nat}{d:Option Nat}{T:TypeId}{p:String}{af:Array Edge}{g:Option (Nat×Bool)}{w:World}{K:Value->World->Prop}
theorem Any.eqA {t ty:TypeId}{x y:Operand}{xs ys:Array Value}{b:Bool}(hm:P.eqGuardType P.depth t=false)(hx:ev env x=some (.agg xs))(hy:ev env y=some (.agg ys))(hb:Ad P 10000 t (.agg xs) (.agg ys) b):
    Any P env n ⟨d,.binOp .eql t x y ty,T,p,af,g⟩ (.bool b):= .bin hx hy (fun w=>run_eqGuard_agg w .eql t x y xs ys hm) fun w=>by rw[run_eql_struct,hb w];rfl
theorem Any.dec {o:Oper}{b v:Bool}(h:Any P env n o (.bool b))(hb:b=v):Any P env n o (.bool v):=hb▸h
theorem Rd.dec {o:Oper}{b v:Bool}(h:Rd P w env n o (.bool b))(hb:b=v):Rd P w env n o (.bool v):=hb▸h
theorem Ef.pO {t e b len:Nat}{z:Value}{parts:Array (Nat×Operand)}(vs:List Value)(ht:P.underlying t=some (.slice e))(hel:El P e 1 b z)(hp:Pk env parts.toList=some (yZ 0 vs))(h1:∀v∈vs,v.oneCell'=true)(hl:vs.length=len)(hlen:len<=16777216)(hpos:0<len)
    (h:∀gb w',w.heap.size<=gb->jL w' gb e vs.toArray->Le w w'->K (.slice (some ⟨gb,0,none⟩) len len) w'):Ef P env n ⟨d,.buildSlice t len parts,T,p,af,g⟩ w K:=by
  have hzs:∃z0,z.cells=#[z0]:=by
    obtain⟨i,_,_,_,_,hz,_⟩:=hel
    exact Array.size_eq_one_iff.1 hz
  obtain⟨z0,c⟩:=hzs
  have hf:=AA (fun i=>some (i*1,1)) vs 0 [] (List.replicate len z0) (by simpa using xN 1 vs 0 (fun v hv=>cells_one (h1 v hv))) (by rw[vQ vs h1];simp[hl])
  rw[vQ vs h1]at hf
  have hd:(List.replicate len z0).drop vs.length=[]:=List.drop_of_length_le (by simp[hl])
  rw[hd,List.append_nil,List.nil_append,List.nil_append]at hf
  have hz:((Array.range (len*1)).map (fun x=>(#[z0]:Array Value)[x%1]!))=(List.replicate len z0).toArray:=by
    apply Array.ext'
    apply List.ext_getElem (by simp)
    intro i h1 j
    simp[Nat.mod_one]
  refine .of_run (v:= .slice (some ⟨w.heap.size,0,none⟩) len len) (w':=w.alloc (.cells vs.toArray e)) (fun a ha=>?_) (h _ _ (Nat.le_refl _) (jL.new w e _) (Le.alloc w _))
  have hparts:parts.map (fun(i,x)=>(i,a.eval x))=(yZ 0 vs).toArray:=by rw[<-ha.Az hp];apply Array.ext';simp
  have f:¬(len*1=0):=by omega
  have hbig:¬(len*1>2^24):=by omega
  simp only[execOp,Instr.buildSlice,Sem.run_bind,run_underlying ht,Result.andThen_ok,hel.sz.run,hparts,newRow]
  rw[if_neg hbig,if_neg f]
  simp only[Sem.run_bind,Sem.run_pure,Result.andThen_ok,hel.zr.run,c]
  rw[show(#[z0]:Array Value).size=1 from rfl,hz,hf]
  simp
theorem Ef.D9 {f:Operand}{FT:FuncId}{qR:Array Value}{args:Array Operand}{ats:Array TypeId}{vs:List Value}{all:Array Value}{R:Ending->World->Prop}(hgo:jV P FT)(hf:ev env f=some (.func (.func FT) #[] qR))(ha:evs env args.toList=some vs)(Z0:vs.toArray++qR=all)
    (hc:Calls P FT all w R)(h:∀e w',R e w'->∃v,e= .returned v/\K v w'):Ef P env n ⟨d,.call ⟨.value f,args,ats⟩,T,p,af,g⟩ w K:=by
  subst Z0
  exact Ef.Xd hgo hf ha hc h
theorem Ef.copy {t tx e s:Nat}{x y:Operand}{gb o dl dc:Nat}{tb:TypeId}{cs:Array Value}{v:Value}{m:Nat}{news:List Value}(ht:P.underlying t=some (.slice e))(hs:Sz P e s)(hx:ev env x=some (.slice (some ⟨gb,o,none⟩) dl dc))(hB:jL w gb tb cs)
    (hy:ev env y=some v)(hS:Src P s tx v m news w)(hm:m<=dl)(hfit:o+news.length<=cs.size)
    (h:∀w',jL w' gb tb (cs.toList.take o++news++cs.toList.drop (o+news.length)).toArray->Ch w w' (some gb)->K (.int .i64 (m:Int)) w'):
    Ef P env n ⟨d,.call ⟨.builtin .copy,#[x,y],#[t,tx]⟩,T,p,af,g⟩ w K:=by
  have hst:=run_storeCells_at P gb o tb news 0 cs w hB (by simpa using hfit) hS.one
  simp only[Nat.add_zero]at hst
  refine .of_run (w':=w.setRow gb (cs.toList.take o++news++cs.toList.drop (o+news.length)).toArray) (fun a ha=>?_) (h _ (setRow_heap w gb cs _ tb (0,0) hB) ⟨rfl,rfl,rfl,by simp,fun k _ hk=>setRow_other w gb k _ (fun e=>hk (by simp[e]))⟩)
  have hmin:Nat.min m dl=m:=Nat.min_eq_left hm
  simp[execOp,resolve,invoke,builtin,ha.eval hx,ha.eval hy,Builtin.copy_,run_underlying ht,hs.run,hS.len,hmin,hS.cells,hst,goInt]
def Ks (w:World)(k:Nat)(A:Option Addr)(m:Nat)(keys:List (List (BitVec 8))):Prop:=keys.length=m/\(∀q∈keys,q.length=k)/\Sl w k A m (keys.map fun q=>q.map lD).flatten
theorem Ks.le {w w':World}{k:Nat}{A:Option Addr}{m:Nat}{keys:List (List (BitVec 8))}(h:Ks w k A m keys)(hl:Le w w'):Ks w' k A m keys:=⟨h.1,h.2.1,h.2.2.le hl⟩
theorem Ef.jX {t e b s len:Nat}{z:Value}{parts:Array (Nat×Operand)}(vs:List Value)(ht:P.underlying t=some (.slice e))(hel:El P e s b z)(hp:Pk env parts.toList=some (yZ 0 vs))(h1:∀v∈vs,v.cells.size=s)(hl:vs.length=len)(hlen:len*s<=16777216)(hpos:0<len)
    (h:∀gb w',w.heap.size<=gb->jL w' gb e (rJ vs).toArray->Le w w'->K (.slice (some ⟨gb,0,none⟩) len len) w'):Ef P env n ⟨d,.buildSlice t len parts,T,p,af,g⟩ w K:=by
  have c:0<s:=by obtain⟨i,_,_,_,_,_,f⟩:=hel;exact f
  have hfl:(rJ vs).length=len*s:=by rw[wM s vs h1,hl]
  have hmap:((Array.range (len*s)).map (fun x=>z.cells[x%z.cells.size]!)).size=len*s:=by simp
  obtain⟨zl,hzl⟩:∃zl:List Value,((Array.range (len*s)).map (fun x=>z.cells[x%z.cells.size]!))=zl.toArray:=⟨_,(Array.toArray_toList).symm⟩
  have abE:zl.length=len*s:=by rw[hzl]at hmap;simpa using hmap
  have hf:=AA (fun i=>some (i*s,s)) vs 0 [] zl (by simpa using xN s vs 0 h1) (by omega)
  have hd:zl.drop (rJ vs).length=[]:=List.drop_of_length_le (by omega)
  rw[hd,List.append_nil,List.nil_append,List.nil_append]at hf
  refine .of_run (v:= .slice (some ⟨w.heap.size,0,none⟩) len len) (w':=w.alloc (.cells (rJ vs).toArray e)) (fun a ha=>?_) (h _ _ (Nat.le_refl _) (jL.new w e _) (Le.alloc w _))
  have hparts:parts.map (fun(i,x)=>(i,a.eval x))=(yZ 0 vs).toArray:=by rw[<-ha.Az hp];apply Array.ext';simp
  have j:¬(len*s=0):=by have:=Nat.mul_pos hpos c;omega
  have hbig:¬(len*s>2^24):=by omega
  simp only[execOp,Instr.buildSlice,Sem.run_bind,run_underlying ht,Result.andThen_ok,hel.sz.run,hparts,newRow]
  rw[if_neg hbig,if_neg j]
  simp only[Sem.run_bind,Sem.run_pure,Result.andThen_ok,hel.zr.run]
  rw[hzl,hf]
  simp
variable {Q:Exit->Act->World->Prop}
theorem WC.scope {c:Code}(h:WC P (Exit.noGoto Q) n c env w):WC P Q n (.scope c) env w:=fun a ha=>wp_scope_straight (h a ha)
theorem E.Pn (h:E Q n .ret env w):E (Exit.noGoto Q) n .ret env w:=h
end
end Go.Sx

namespace Go.Sx
open Go
def Kn (env:Env):Op->Option Value
  | .move x=>ev env x
  | .assign x=>ev env x
  | .pick c x y=>match ev env c with
    |some (.bool true)=>ev env x
    |some (.bool false)=>ev env y
    |_=>none
  | .extract x i=>match ev env x with
    |some (.tuple vs)=>vs[i]?
    |_=>none
  | .unOp .not _ x=>match ev env x with
    |some (.bool b)=>some (.bool (!b))
    |_=>none
  | .binOp .lss _ x y _=>match ev env x,ev env y with
    |some (.int k a),some (.int k' b)=>if k=k' then some (.bool (decide (a<b)))else none
    |_,_=>none
  | .binOp .leq _ x y _=>match ev env x,ev env y with
    |some (.int k a),some (.int k' b)=>if k=k' then some (.bool (decide (a<=b)))else none
    |_,_=>none
  | .binOp .gtr _ x y _=>match ev env x,ev env y with
    |some (.int k a),some (.int k' b)=>if k=k' then some (.bool (decide (b<a)))else none
    |_,_=>none
  | .binOp .geq _ x y _=>match ev env x,ev env y with
    |some (.int k a),some (.int k' b)=>if k=k' then some (.bool (decide (b<=a)))else none
    |_,_=>none
  | .binOp .eql _ x y _=>match ev env x,ev env y with
    |some (.int k a),some (.int k' b)=>if k=k' then some (.bool (decide (a=b)))else none
    |_,_=>none
  | .binOp .neq _ x y _=>match ev env x,ev env y with
    |some (.int k a),some (.int k' b)=>if k=k' then some (.bool (decide (a≠b)))else none
    |_,_=>none
  |_=>none
section
variable {P:Program}{ops:Array Oper}{Q:Exit->Act->World->Prop}{n:Nat}{env:Env}{w:World}
theorem vR {d:Option Nat}{op:Op}{T:TypeId}{p:String}{af:Array Edge}{g:Option (Nat×Bool)}{v:Value}(h:Kn env op=some v):Any P env n ⟨d,op,T,p,af,g⟩ v:=by
  unfold Kn at h
  split at h
  · exact .move h
  · exact .assign h
  · split at h
    · rename_i hc;exact .I5 hc rfl h
    · rename_i hc;exact .I6 hc rfl h
    · cases h
  · split at h
    · rename_i hx;exact .extract hx h
    · cases h
  · split at h
    · rename_i hx;cases h;exact .not hx
    · cases h
  · split at h
    · rename_i hx hy
      split at h
      · rename_i hk;subst hk;cases h;exact .lss hx hy
      · cases h
    · cases h
  · split at h
    · rename_i hx hy
      split at h
      · rename_i hk;subst hk;cases h;exact .leq hx hy
      · cases h
    · cases h
  · split at h
    · rename_i hx hy
      split at h
      · rename_i hk;subst hk;cases h;exact .gtr hx hy
      · cases h
    · cases h
  · split at h
    · rename_i hx hy
      split at h
      · rename_i hk;subst hk;cases h;exact .geq hx hy
      · cases h
    · cases h
  · split at h
    · rename_i hx hy
      split at h
      · rename_i hk;subst hk;cases h;exact .eql hx hy
      · cases h
    · cases h
  · split at h
    · rename_i hx hy
      split at h
      · rename_i hk;subst hk;cases h;exact .neq hx hy
      · cases h
    · cases h
  · cases h
def FU (ops:Array Oper)(n:Nat)(env:Env)(o:Oper):Option Env:=
  match o with
  |⟨some d,op,_,_,_,none⟩=>match Nat.blt d n,Kn env op with
    |true,some v=>some ((d,v)::env)
    |_,_=>none
  |⟨some d,op,_,_,_,some (j,want)⟩=>match Nat.blt d n,(ops[j]?).bind (·.dst)with
    |true,some dj=>match look env dj,want with
      |some (.bool true),true=>match Kn env op with
        |some v=>some ((d,v)::env)
        |none=>none
      |some (.bool false),false=>match Kn env op with
        |some v=>some ((d,v)::env)
        |none=>none
      |some (.bool true),false=>some ((d,undef)::env)
      |some (.bool false),true=>some ((d,undef)::env)
      |_,_=>none
    |_,_=>none
  |_=>none
theorem Sv {o:Oper}{rest:List Oper}{e:Env}(h:FU ops n env o=some e)(k:W P ops Q n rest e w):W P ops Q n (o::rest) env w:=by
  unfold FU at h
  split at h
  · split at h
    · rename_i hn hv;cases h;exact W.any (vR hv) rfl rfl hn k
    · cases h
  · split at h
    · rename_i hn hj
      split at h
      · rename_i hl
        split at h
        · rename_i hv;cases h;exact W.Dl (Any.rd (vR hv) _) rfl hj hl rfl rfl hn k
        · cases h
      · rename_i hl
        split at h
        · rename_i hv;cases h;exact W.Dl (Any.rd (vR hv) _) rfl hj hl rfl rfl hn k
        · cases h
      · rename_i hl;cases h;exact W.skip rfl hj hl rfl rfl hn k
      · rename_i hl;cases h;exact W.skip rfl hj hl rfl rfl hn k
      · cases h
    · cases h
  · cases h
def Sw (ops:Array Oper)(n:Nat):Nat->List Oper->Env->Option (List Oper×Env)
  |0,l,env=>some (l,env)
  |k+1,o::l,env=>match FU ops n env o with
    |some e=>Sw ops n k l e
    |none=>none
  |_+1,[],_=>none
theorem W.run:∀(k:Nat) {rest l:List Oper} {env e:Env},Sw ops n k rest env=some (l,e)->W P ops Q n l e w->W P ops Q n rest env w
  |0,_,_,_,_,h,k=>by cases h;exact k
  |j+1,[],_,_,_,h,_=>by cases h
  |j+1,o::r,l,env,e,h,k=>by
    unfold Sw at h
    split at h
    · rename_i hs;exact Sv hs (W.run j h k)
    · cases h
theorem G7 {op:Op}{v:Value}(h:Kn env op=some v):kd op=0:=by
  unfold Kn at h
  split at h<;>first|rfl|cases h
theorem Sy {i:Nat}{o:Oper}{plan:List Nat}{e:Env}(ho:ops[i]? =some o)(h:FU ops n env o=some e)(k:G P ops Q n plan e w):G P ops Q n (i::plan) env w:=by
  unfold FU at h
  split at h
  · split at h
    · rename_i hn hv;cases h;exact G.any ho (G7 hv) (vR hv) rfl rfl hn k
    · cases h
  · split at h
    · rename_i hn hj
      split at h
      · rename_i hl
        split at h
        · rename_i hv;cases h;exact G.Na ho (G7 hv) (vR hv) rfl hj hl rfl rfl hn k
        · cases h
      · rename_i hl
        split at h
        · rename_i hv;cases h;exact G.Na ho (G7 hv) (vR hv) rfl hj hl rfl rfl hn k
        · cases h
      · rename_i hl;cases h;exact G.skip ho rfl hj hl rfl rfl hn k
      · rename_i hl;cases h;exact G.skip ho rfl hj hl rfl rfl hn k
      · cases h
    · cases h
  · cases h
def SA (ops:Array Oper)(n:Nat):Nat->List Nat->Env->Option (List Nat×Env)
  |0,l,env=>some (l,env)
  |k+1,i::l,env=>match ops[i]? with
    |some o=>match FU ops n env o with
      |some e=>SA ops n k l e
      |none=>none
    |none=>none
  |_+1,[],_=>none
theorem G.run:∀(k:Nat) {plan l:List Nat} {env e:Env},SA ops n k plan env=some (l,e)->G P ops Q n l e w->G P ops Q n plan env w
  |0,_,_,_,_,h,k=>by cases h;exact k
  |j+1,[],_,_,_,h,_=>by cases h
  |j+1,o::r,l,env,e,h,k=>by
    unfold SA at h
    split at h
    · rename_i ho
      split at h
      · rename_i hs;exact Sy ho hs (G.run j h k)
      · cases h
    · cases h
theorem W.nx {y:Code}{Q Q':Exit->Act->World->Prop}(h:WC P Q n y env w):W P ops (Exit.then (y.wp P Q) Q') n [] env w:=W.nil (E.jG h)
theorem WC.sr {id:Nat}{l:List Oper}{y:Code}(h:W P l.toArray (Exit.then (y.wp P Q) Q) n l env w):WC P Q n (.seq (.region id l.toArray false) y) env w:= .seq (.region h)
theorem WC.sn {y:Code}{Q':Exit->Act->World->Prop}(h:WC P Q n y env w):WC P (Exit.then (y.wp P Q) Q') n .skip env w:= .skip (E.jG h)
theorem W.dt {rest:List Oper}{d:Nat}{x:Operand}{T:TypeId}{pp:String}{af:Array Edge}{p:Prop}[Decidable p](hp:p)(hx:ev env x=some (.bool (decide p)))(hn:Nat.blt d n=true)(h:W P ops Q n rest ((d,.bool true)::env) w):W P ops Q n (⟨some d,.move x,T,pp,af,none⟩::rest) env w:=W.any (.dec (.move hx) (decide_eq_true hp)) rfl rfl hn h
theorem W.df {rest:List Oper}{d:Nat}{x:Operand}{T:TypeId}{pp:String}{af:Array Edge}{p:Prop}[Decidable p](hp:¬p)(hx:ev env x=some (.bool (decide p)))(hn:Nat.blt d n=true)(h:W P ops Q n rest ((d,.bool false)::env) w):W P ops Q n (⟨some d,.move x,T,pp,af,none⟩::rest) env w:=W.any (.dec (.move hx) (decide_eq_false hp)) rfl rfl hn h
theorem W.a {o:Oper}{rest:List Oper}{v:Value}{d:Nat}(hr:Any P env n o v)(h:W P ops Q n rest ((d,v)::env) w)(hg:o.guard=none:=by exact rfl)(hd:o.dst=some d:=by exact rfl)(hn:Nat.blt d n=true:=by exact rfl):W P ops Q n (o::rest) env w:=W.any hr hg hd hn h
theorem W.r {o:Oper}{rest:List Oper}{v:Value}{d:Nat}(hr:Rd P w env n o v)(h:W P ops Q n rest ((d,v)::env) w)(hg:o.guard=none:=by exact rfl)(hd:o.dst=some d:=by exact rfl)(hn:Nat.blt d n=true:=by exact rfl):W P ops Q n (o::rest) env w:=W.rd hr hg hd hn h
theorem W.g {o:Oper}{rest:List Oper}{v:Value}{d j dj:Nat}{b want:Bool}(hr:Rd P w env n o v)(h:W P ops Q n rest ((d,v)::env) w)(hg:o.guard=some (j,want):=by exact rfl)(hj:(ops[j]?).bind (·.dst)=some dj:=by exact rfl)(hv:look env dj=some (.bool b):=by exact rfl)(hb:b=want:=by exact rfl)(hd:o.dst=some d:=by exact rfl)(hn:Nat.blt d n=true:=by exact rfl):W P ops Q n (o::rest) env w:=W.Dl hr hg hj hv hb hd hn h
theorem G.a {i:Nat}{o:Oper}{plan:List Nat}{v:Value}{d:Nat}(ho:ops[i]? =some o)(hr:Any P env n o v)(h:G P ops Q n plan ((d,v)::env) w)(hk:kd o.op=0:=by exact rfl)(hg:o.guard=none:=by exact rfl)(hd:o.dst=some d:=by exact rfl)(hn:Nat.blt d n=true:=by exact rfl):G P ops Q n (i::plan) env w:=G.any ho hk hr hg hd hn h
theorem G.r {i:Nat}{o:Oper}{plan:List Nat}{v:Value}{d:Nat}(ho:ops[i]? =some o)(hr:Rd P w env n o v)(h:G P ops Q n plan ((d,v)::env) w)(hk:kd o.op=1:=by exact rfl)(hg:o.guard=none:=by exact rfl)(hd:o.dst=some d:=by exact rfl)(hn:Nat.blt d n=true:=by exact rfl):G P ops Q n (i::plan) env w:=G.rd ho hk hr hg hd hn h
theorem G.ag {i:Nat}{o:Oper}{plan:List Nat}{v:Value}{d j dj:Nat}{b want:Bool}(ho:ops[i]? =some o)(hr:Any P env n o v)(h:G P ops Q n plan ((d,v)::env) w)(hk:kd o.op=0:=by exact rfl)(hg:o.guard=some (j,want):=by exact rfl)(hj:(ops[j]?).bind (·.dst)=some dj:=by exact rfl)(hv:look env dj=some (.bool b):=by exact rfl)(hb:b=want:=by exact rfl)(hd:o.dst=some d:=by exact rfl)(hn:Nat.blt d n=true:=by exact rfl):G P ops Q n (i::plan) env w:=G.Na ho hk hr hg hj hv hb hd hn h
theorem G.rg {i:Nat}{o:Oper}{plan:List Nat}{v:Value}{d j dj:Nat}{b want:Bool}(ho:ops[i]? =some o)(hr:Rd P w env n o v)(h:G P ops Q n plan ((d,v)::env) w)(hk:kd o.op=1:=by exact rfl)(hg:o.guard=some (j,want):=by exact rfl)(hj:(ops[j]?).bind (·.dst)=some dj:=by exact rfl)(hv:look env dj=some (.bool b):=by exact rfl)(hb:b=want:=by exact rfl)(hd:o.dst=some d:=by exact rfl)(hn:Nat.blt d n=true:=by exact rfl):G P ops Q n (i::plan) env w:=G.Dl ho hk hr hg hj hv hb hd hn h
abbrev Ret (e:Ending)(K:Value->Prop):Prop:=match e with
  | .returned v=>K v
  |_=>False
theorem W.cl {rest:List Oper}{d:Nat}{f:Operand}{FT:FuncId}{args:Array Operand}{ats:Array TypeId}{vs:List Value}{R:Ending->World->Prop}{T:TypeId}{p:String}{af:Array Edge}(hgo:jV P FT)(hf:ev env f=some (.func (.func FT) #[] #[]))(ha:evs env args.toList=some vs)(hc:Calls P FT vs.toArray w R)(h:∀e w',R e w'->Ret e fun v=>W P ops Q n rest ((d,v)::env) w')(hn:Nat.blt d n=true:=by exact rfl):W P ops Q n (⟨some d,.call ⟨.value f,args,ats⟩,T,p,af,none⟩::rest) env w:=W.ef rfl rfl hn (Ef.call hgo hf ha hc fun e w' he=>by
    have h:=h e w' he
    cases e with
    |returned v=>exact⟨v,rfl,h⟩
    |panicked c=>exact h.elim
    |outgrown=>exact h.elim)
theorem Le.tb {w0 w1 w2 wz:World}{g:Nat}(h:Le w0 w1)(k:Ch w1 w2 (some g))(m:Le w0 wz)(hg:wz.heap.size<=g):Le w0 w2:=h.kI k (fun q hq=>by cases hq;exact Nat.le_trans m.size hg)
theorem W.sA {rest:List Oper}{t sz tb:TypeId}{x y:Operand}{gb:Nat}{cs vs:Array Value}{T:TypeId}{p:String}{af:Array Edge}(hs:Sz P t sz)(hx:ev env x=some (.pointer (some ⟨gb,0,none⟩)))(hy:ev env y=some (.agg vs))(hB:jL w gb tb cs)
    (h:∀w',jL w' gb tb vs->Ch w w' (some gb)->W P ops Q n rest env w')(hsz:vs.size=sz:=by rfl)(hl:cs.size=vs.size:=by rfl)(hv:∀v∈vs.toList,v.oneCell'=true:=by simp[Value.oneCell']):W P ops Q n (⟨none,.store t x y,T,p,af,none⟩::rest) env w:=
  W.kP rfl rfl (Ef.storeAll hs hsz hx hy hB hl hv h)
theorem dT {p:Prop}[Decidable p](h:p):decide p=true:=decide_eq_true h
theorem dF {p:Prop}[Decidable p](h:¬p):decide p=false:=decide_eq_false h
theorem oI {α:Type}{a b:α}(h:some a=some b):a=b:=Option.some.inj h
theorem noT {a:Bool}{p q:Prop}(h:a=false)(hq:q):(a=true->p)/\q:=⟨fun x=>absurd x (ne_true_of_eq_false h),hq⟩
theorem rB {a b:Bool}(h:a=b):Ending.returned (Value.bool a)=Ending.returned (Value.bool b):=by rw[h]
end
end Go.Sx

