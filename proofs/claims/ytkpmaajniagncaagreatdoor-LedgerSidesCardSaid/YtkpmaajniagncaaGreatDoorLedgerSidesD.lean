/- LedgerSides: for every input the law answers true and leaves its arguments as they were. -/
import Derived.Test.YtkpmaajniagncaaGreatDoorLedgerSidesC
import Derived.WalkSpells
set_option linter.unusedVariables false
set_option linter.unusedSimpArgs false
namespace Go.Sx
open Go Go.RowKit
def jf (x:BitVec 8):Value:= .int .u8 (x.toNat:Int)
def jL (x:BitVec 32):Value:= .int .u32 (x.toNat:Int)
theorem rT (l:List (BitVec 8)):∀u∈l.map jf,u.oneCell'=true:=fun u hu=>by obtain⟨x,_,rfl⟩:=List.mem_map.1 hu;rfl
theorem nT (l:List (BitVec 32)):∀u∈l.map jL,u.oneCell'=true:=fun u hu=>by obtain⟨x,_,rfl⟩:=List.mem_map.1 hu;rfl
theorem wrap_u8 (i:Int):IntKind.u8.wrap i=i%256:=by simp[IntKind.wrap,IntKind.bits,IntKind.signed]
theorem wrap_u32 (i:Int):IntKind.u32.wrap i=i%4294967296:=by simp[IntKind.wrap,IntKind.bits,IntKind.signed]
theorem wrap_u64 (i:Int):IntKind.u64.wrap i=i%18446744073709551616:=by simp[IntKind.wrap,IntKind.bits,IntKind.signed]
theorem MP (n:Nat):IntKind.u8.wrap (n:Int)=((BitVec.ofNat 8 n).toNat:Int):=by rw[wrap_u8,BitVec.toNat_ofNat];simp
theorem tN {n:Nat}(x:BitVec n):BitVec.ofInt n (x.toNat:Int)=x:=by rw[BitVec.ofInt_natCast];simp
section
variable {P:Program}{env:Env}{n:Nat}{d:Option Nat}{T:TypeId}{p:String}{af:Array Edge}{g:Option (Nat×Bool)}{w:World}{t ty:TypeId}{x y:Operand}
theorem Any.ag8 {a b:BitVec 8}(hx:ev env x=some (jf a))(hy:ev env y=some (jf b)):Any P env n ⟨d,.binOp .xor t x y ty,T,p,af,g⟩ (jf (a^^^b)):=
 .int hx hy fun w=>by
  have h:IntKind.u8.wrap ((a^^^b).toNat:Int)=((a^^^b).toNat:Int):=by rw[wrap_u8];have:=(a^^^b).isLt;omega
  simp only[binOp,Op.intBits,IntKind.bits,tN]
  simp only[ne_eq,not_true_eq_false,if_false,jf]
  exact congrArg (fun i=>Result.ok (Value.int .u8 i) w) h
variable {k:IntKind}{i:Int}
theorem Any.ag9 {a:BitVec 8}(m:Nat)(hx:ev env x=some (jf a))(hy:ev env y=some (.int k i))(hi:i=(m:Int))(hm:m<=8):Any P env n ⟨d,.binOp .shl t x y ty,T,p,af,g⟩ (jf (a<<<m)):=
 .int hx hy fun w=>by
  subst hi
  have h:IntKind.u8.wrap ((a.toNat:Int)*2^m)=((a<<<m).toNat:Int):=by
   rw[wrap_u8,BitVec.toNat_shiftLeft,Nat.shiftLeft_eq];simp
  have c:¬((m:Int)<0):=by omega
  have e:min m IntKind.u8.bits=m:=Nat.min_eq_left hm
  simp[binOp,jf,h]
theorem Any.qM {a b:BitVec 32}(hx:ev env x=some (jL a))(hy:ev env y=some (jL b)):Any P env n ⟨d,.binOp .xor t x y ty,T,p,af,g⟩ (jL (a^^^b)):=
 .int hx hy fun w=>by
  have h:IntKind.u32.wrap ((a^^^b).toNat:Int)=((a^^^b).toNat:Int):=by rw[wrap_u32];have:=(a^^^b).isLt;omega
  simp only[binOp,Op.intBits,IntKind.bits,tN]
  simp only[ne_eq,not_true_eq_false,if_false,jL]
  exact congrArg (fun i=>Result.ok (Value.int .u32 i) w) h
theorem Any.ET {a b:BitVec 32}(hx:ev env x=some (jL a))(hy:ev env y=some (jL b)):Any P env n ⟨d,.binOp .and t x y ty,T,p,af,g⟩ (jL (a&&&b)):=
 .int hx hy fun w=>by
  have h:IntKind.u32.wrap ((a&&&b).toNat:Int)=((a&&&b).toNat:Int):=by rw[wrap_u32];have:=(a&&&b).isLt;omega
  simp only[binOp,Op.intBits,IntKind.bits,tN]
  simp only[ne_eq,not_true_eq_false,if_false,jL]
  exact congrArg (fun i=>Result.ok (Value.int .u32 i) w) h
theorem Any.Jh {a b:BitVec 32}(hx:ev env x=some (jL a))(hy:ev env y=some (jL b)):Any P env n ⟨d,.binOp .or t x y ty,T,p,af,g⟩ (jL (a|||b)):=
 .int hx hy fun w=>by
  have h:IntKind.u32.wrap ((a|||b).toNat:Int)=((a|||b).toNat:Int):=by rw[wrap_u32];have:=(a|||b).isLt;omega
  simp only[binOp,Op.intBits,IntKind.bits,tN]
  simp only[ne_eq,not_true_eq_false,if_false,jL]
  exact congrArg (fun i=>Result.ok (Value.int .u32 i) w) h
theorem Any.add32 {a b:BitVec 32}(hx:ev env x=some (jL a))(hy:ev env y=some (jL b)):Any P env n ⟨d,.binOp .add t x y ty,T,p,af,g⟩ (jL (a+b)):=
 .int hx hy fun w=>by
  have h:IntKind.u32.wrap ((a.toNat:Int)+(b.toNat:Int))=((a+b).toNat:Int):=by rw[wrap_u32,BitVec.toNat_add];omega
  simp[binOp,Op.intArith,jL,h]
theorem Any.EU {a:BitVec 32}(m:Nat)(hx:ev env x=some (jL a))(hy:ev env y=some (.int k i))(hi:i=(m:Int))(hm:m<=32):Any P env n ⟨d,.binOp .shl t x y ty,T,p,af,g⟩ (jL (a<<<m)):=
 .int hx hy fun w=>by
  subst hi
  have h:IntKind.u32.wrap ((a.toNat:Int)*2^m)=((a<<<m).toNat:Int):=by
   rw[wrap_u32,BitVec.toNat_shiftLeft,Nat.shiftLeft_eq];simp
  have c:¬((m:Int)<0):=by omega
  have e:min m IntKind.u32.bits=m:=Nat.min_eq_left hm
  simp[binOp,jL,h]
theorem Any.EW {a:BitVec 32}(m:Nat)(hx:ev env x=some (jL a))(hy:ev env y=some (.int k i))(hi:i=(m:Int))(hm:m<=32):Any P env n ⟨d,.binOp .shr t x y ty,T,p,af,g⟩ (jL (a>>>m)):=
 .int hx hy fun w=>by
  subst hi
  have h:(a.toNat:Int).fdiv (2^m)=((a>>>m).toNat:Int):=by
   rw[BitVec.toNat_ushiftRight,Nat.shiftRight_eq_div_pow,Int.fdiv_eq_ediv_of_nonneg _ (Int.le_of_lt (Int.pow_pos (by decide)))];simp
  have c:¬((m:Int)<0):=by omega
  have e:min m IntKind.u32.bits=m:=Nat.min_eq_left hm
  simp only[binOp,Op.shift,jL]
  rw[if_neg c]
  simp only[Int.toNat_natCast,e,h]
  rfl
variable {k':IntKind}{j:Int}
theorem Any.Pw (a m:Nat)(hx:ev env x=some (.int k i))(ha:i=(a:Int))(hy:ev env y=some (.int k' j))(hj:j=(m:Int))(hm:m<=k.bits):
  Any P env n ⟨d,.binOp .shr t x y ty,T,p,af,g⟩ (.int k ((a>>>m:Nat):Int)):=
 .int hx hy fun w=>by
  subst ha hj
  have h:(a:Int).fdiv (2^m)=((a>>>m:Nat):Int):=by
   rw[Nat.shiftRight_eq_div_pow,Int.fdiv_eq_ediv_of_nonneg _ (Int.le_of_lt (Int.pow_pos (by decide)))];simp
  have c:¬((m:Int)<0):=by omega
  have e:min m k.bits=m:=Nat.min_eq_left hm
  simp only[binOp,Op.shift]
  rw[if_neg c]
  simp[e,h]
variable {s:TypeId}
theorem Rd.toU8 (a:Nat)(hs:(P.underlying s).isSome=true)(ht:P.underlying t=some (.int .u8))(hx:ev env x=some (.int k i))(ha:i=(a:Int)):
  Rd P w env n ⟨d,.convert s t x,T,p,af,g⟩ (jf (BitVec.ofNat 8 a)):=by
 subst ha
 exact Rd.vW hs ht hx (MP a)
theorem Rd.yR {a:BitVec 8}(hs:(P.underlying s).isSome=true)(ht:P.underlying t=some (.int .u32))(hx:ev env x=some (jf a)):
  Rd P w env n ⟨d,.convert s t x,T,p,af,g⟩ (jL (a.setWidth 32)):=
 Rd.vW hs ht hx (by rw[wrap_u32];have:=a.isLt;simp)
theorem Rd.VT {a:BitVec 32}(hs:(P.underlying s).isSome=true)(ht:P.underlying t=some (.int .u8))(hx:ev env x=some (jL a)):
  Rd P w env n ⟨d,.convert s t x,T,p,af,g⟩ (jf (a.setWidth 8)):=
 Rd.vW hs ht hx (by rw[wrap_u8,BitVec.toNat_setWidth];simp)
theorem Rd.VU {a:BitVec 8}(hs:(P.underlying s).isSome=true)(ht:P.underlying t=some (.int .u64))(hx:ev env x=some (jf a)):
  Rd P w env n ⟨d,.convert s t x,T,p,af,g⟩ (.int .u64 (a.toNat:Int)):=
 Rd.vW hs ht hx (IntWalk.u64_in _ (by have:=a.isLt;omega))
theorem Rd.Tp (hs:(P.underlying s).isSome=true)(ht:P.underlying t=some (.int k'))(hx:ev env x=some (.int k i))(h:k'.wrap i=i):
 Rd P w env n ⟨d,.convert s t x,T,p,af,g⟩ (.int k' i):=Rd.vW hs ht hx h
theorem ou (a:Nat)(ha:a<18446744073709551616):(BitVec.ofInt 64 (a:Int)).toNat=a:=by
 rw[BitVec.ofInt_natCast,BitVec.toNat_ofNat];exact Nat.mod_eq_of_lt (by omega)
theorem Any.aeK (a b:Nat)(hx:ev env x=some (.int .u64 i))(hi:i=(a:Int))(hy:ev env y=some (.int .u64 j))(hj:j=(b:Int))(ha:a<18446744073709551616)(hb:b<18446744073709551616):
  Any P env n ⟨d,.binOp .and t x y ty,T,p,af,g⟩ (.int .u64 ((a&&&b:Nat):Int)):=
 .int hx hy fun w=>by
  subst hi hj
  have hlt:a&&&b<2^64:=Nat.and_lt_two_pow _ (by omega)
  have h:IntKind.u64.wrap ((BitVec.ofInt 64 (a:Int)&&&BitVec.ofInt 64 (b:Int)).toNat:Int)=((a&&&b:Nat):Int):=by
   rw[BitVec.toNat_and,ou a ha,ou b hb,wrap_u64];omega
  simp only[binOp,Op.intBits,IntKind.bits,ne_eq,not_true_eq_false,if_false]
  exact congrArg (fun i=>Result.ok (Value.int .u64 i) w) h
theorem Any.orN (a b:Nat)(hx:ev env x=some (.int .u64 i))(hi:i=(a:Int))(hy:ev env y=some (.int .u64 j))(hj:j=(b:Int))(ha:a<18446744073709551616)(hb:b<18446744073709551616):
  Any P env n ⟨d,.binOp .or t x y ty,T,p,af,g⟩ (.int .u64 ((a|||b:Nat):Int)):=
 .int hx hy fun w=>by
  subst hi hj
  have hlt:a|||b<2^64:=Nat.or_lt_two_pow (by omega) (by omega)
  have h:IntKind.u64.wrap ((BitVec.ofInt 64 (a:Int)|||BitVec.ofInt 64 (b:Int)).toNat:Int)=((a|||b:Nat):Int):=by
   rw[BitVec.toNat_or,ou a ha,ou b hb,wrap_u64];omega
  simp only[binOp,Op.intBits,IntKind.bits,ne_eq,not_true_eq_false,if_false]
  exact congrArg (fun i=>Result.ok (Value.int .u64 i) w) h
theorem Any.aha {a b:Int}(hx:ev env x=some (.int .u64 a))(hy:ev env y=some (.int .u64 b))(hb:0<=a-b/\a-b<=18446744073709551615):
 Any P env n ⟨d,.binOp .sub t x y ty,T,p,af,g⟩ (.int .u64 (a-b)):= .int hx hy fun w=>by simp[binOp,Op.intArith,IntWalk.u64_in _ hb]
theorem Any.ahb {a b:Int}(hx:ev env x=some (.int .u64 a))(hy:ev env y=some (.int .u64 b))(hb:0<=a*b/\a*b<=18446744073709551615):
 Any P env n ⟨d,.binOp .mul t x y ty,T,p,af,g⟩ (.int .u64 (a*b)):= .int hx hy fun w=>by simp[binOp,Op.intArith,IntWalk.u64_in _ hb]
theorem Any.ahc {a b:Int}(hx:ev env x=some (.int .u64 a))(hy:ev env y=some (.int .u64 b))(hb:0<=a/\a<=18446744073709551615/\1<=b):
  Any P env n ⟨d,.binOp .quo t x y ty,T,p,af,g⟩ (.int .u64 (a/b)):= .int hx hy fun w=>by
 have:b≠0:=by omega
 simp[binOp,Op.intDiv,this,IntWalk.u64_quo _ _ hb]
theorem Any.ahd {a b:Int}(hx:ev env x=some (.int .u64 a))(hy:ev env y=some (.int .u64 b))(hb:0<=a/\1<=b):
  Any P env n ⟨d,.binOp .rem t x y ty,T,p,af,g⟩ (.int .u64 (a%b)):= .int hx hy fun w=>by
 have:b≠0:=by omega
 simp[binOp,Op.intDiv,this,IntWalk.rem_in _ b hb.1]
variable {A:Option Addr}{c:Nat}
theorem Any.isNil {e:TypeId}{l:Nat}(ht:P.underlying t=some (.slice e))(hx:ev env x=some (.slice A l c)):
  Any P env n ⟨d,.binOp .eql t x (.const (.slice none 0 0)) ty,T,p,af,g⟩ (.bool A.isNone):=
 .bin hx Z (fun _=>rfl) fun w=>Lib.run_eql_slice_nil w t e A l c 0 0 ht
variable {K:Value->World->Prop}{e:Nat}
theorem Ef.oz {t s b:Nat}{z:Value}(ht:P.underlying t=some (.slice e))(hel:El P e s b z)
  (h:∀gb w',w.heap.size<=gb->ik w' gb e #[]->Le w w'->K (.slice (some ⟨gb,0,none⟩) 0 0) w'):Ef P env n ⟨d,.buildSlice t 0 #[],T,p,af,g⟩ w K:=by
 refine .of_run (v:= .slice (some ⟨w.heap.size,0,none⟩) 0 0) (w':=w.alloc (.cells #[] e)) (fun a ha=>?_) (h _ _ (Nat.le_refl _) (ik.new w e _) (Le.alloc w _))
 simp[execOp,Instr.buildSlice,run_underlying ht,hel.sz.run,Instr.fill,newRow,show Array.range 0=#[]from Z]
variable {gb:Nat}
theorem Any.VV {e:TypeId}{len cap:Nat}(j:Nat)(ht:P.underlying t=some (.slice e))(hs:Sz P e 1)(hx:ev env x=some (.slice (some ⟨gb,0,none⟩) len cap))(hy:ev env y=some (.int k i))
  (hi:i=(j:Int))(hj:j<len):Any P env n ⟨d,.indexAddr t x y,T,p,af,g⟩ (.pointer (some ⟨gb,j,none⟩)):=by
 have:=Any.ac3 (P:=P) (n:=n) (d:=d) (T:=T) (p:=p) (af:=af) (g:=g) j ht hs hx hy hi hj
 rwa [Nat.mul_one,Nat.zero_add]at this
theorem Any.aeL {t len:Nat}(j:Nat)(ht:P.underlying t=some (.array len e))(hs:Sz P e 1)(hx:ev env x=some (.pointer (some ⟨gb,0,none⟩)))(hy:ev env y=some (.int k i))
  (hi:i=(j:Int))(hj:j<len):Any P env n ⟨d,.indexAddr t x y,T,p,af,g⟩ (.pointer (some ⟨gb,j,none⟩)):=by
 have:=Any.ac4 (P:=P) (n:=n) (d:=d) (T:=T) (p:=p) (af:=af) (g:=g) j ht hs hx hy hi hj
 rwa [Nat.mul_one,Nat.zero_add]at this
def VW (env:Env):List (Nat×Operand)->Option (List (Nat×Value))
 |[]=>some []
 |(i,x)::xs=>match ev env x,VW env xs with
  |some v,some vs=>some ((i,v)::vs)
  |_,_=>none
theorem sM.BL {a:Act}(h:sM a n env):∀{xs:List (Nat×Operand)} {vs:List (Nat×Value)},VW env xs=some vs->xs.map (fun(i,x)=>(i,a.eval x))=vs
 |[],vs,hv=>by simp[VW]at hv;simp[hv]
 |(i,x)::xs,vs,hv=>by
  simp only[VW]at hv
  split at hv
  ·rename_i v vs' h1 h2
   injection hv with hv
   subst hv
   simp[h.eval h1,h.BL h2]
  ·cases hv
theorem Any.kU {t len s:Nat}{z:Value}{parts:Array (Nat×Operand)}{vs:List (Nat×Value)}{cells:Array Value}(hu:P.underlying t=some (.array len e))(hs:Sz P e s)(hz:Zr P t z)(hp:VW env parts.toList=some vs)
  (hf:Instr.fill (fun i=>some (i*s,s)) z.cells vs=some cells):Any P env n ⟨d,.build t parts,T,p,af,g⟩ (.agg cells):=fun a ha w=>by
 have hparts:parts.map (fun(i,x)=>(i,a.eval x))=vs.toArray:=by rw[<-ha.BL hp];apply Array.ext';simp
 simp[execOp,Instr.build,hz.run,run_underlying hu,hs.run,hparts,hf]
def AV:Nat->List Value->List (Nat×Value)
 |_,[]=>[]
 |k,v::vs=>(k,v)::AV (k+1) vs
def rU (vs:List Value):List Value:=(vs.map fun v=>v.cells.toList).flatten
def ac6 (place:Nat->Option (Nat×Nat)):Nat->Nat->List Value->Prop
 |_,_,[]=>True
 |k,off,v::vs=>place k=some (off,v.cells.size)/\ac6 place (k+1) (off+v.cells.size) vs
theorem yS:∀(cs:List Value) (k:Nat) (off:Nat) (pre post:List Value),pre.length=off+k->cs.length<=post.length->
  (cs.zipIdx k).foldl (fun(acc:Array Value) (x:Value×Nat)=>acc.setIfInBounds (off+x.2) x.1) (pre++post).toArray=(pre++cs++post.drop cs.length).toArray
 |[],_,_,_,_,_,_=>by simp
 |c::cs,k,off,pre,post,h1,h2=>by
  cases post with
  |nil=>simp at h2
  |cons q post=>
   simp only[List.zipIdx_cons,List.foldl_cons]
   have e:((pre++q::post).toArray.setIfInBounds (off+k) c)=((pre++[c])++post).toArray:=by
    apply Array.ext'
    rw[Array.toList_setIfInBounds,<-h1]
    simp
   rw[e,yS cs (k+1) off (pre++[c]) post (by simp[h1];omega) (by simpa using h2)]
   simp
theorem BN (place:Nat->Option (Nat×Nat)):∀(vs:List Value) (k:Nat) (pre post:List Value),ac6 place k pre.length vs->(rU vs).length<=post.length->
  Instr.fill place (pre++post).toArray (AV k vs)=some (pre++rU vs++post.drop (rU vs).length).toArray
 |[],_,_,_,_,_=>by simp[AV,Instr.fill,rU]
 |v::vs,k,pre,post,h1,h2=>by
  obtain⟨hp,hc⟩:=h1
  have hl:v.cells.size+(rU vs).length<=post.length:=by simpa[rU]using h2
  have hf:(v.cells.zipIdx.foldl (fun(cs:Array Value) (x:Value×Nat)=>cs.setIfInBounds (pre.length+x.2) x.1) (pre++post).toArray)=(pre++v.cells.toList++post.drop v.cells.size).toArray:=by
   have:=yS v.cells.toList 0 pre.length pre post (by simp) (by simp;omega)
   rw[<-Array.foldl_toList]
   simpa using this
  simp only[AV,Instr.fill,hp]
  rw[if_neg (by simp;omega)]
  have hf':Array.foldl (fun cs x=>match x with |(c,j)=>cs.setIfInBounds (pre.length+j) c) (pre++post).toArray v.cells.zipIdx=(pre++v.cells.toList++post.drop v.cells.size).toArray:=hf
  rw[hf',BN place vs (k+1) (pre++v.cells.toList) (post.drop v.cells.size) (by simpa using hc) (by simp;omega)]
  simp[rU]
theorem wM:∀(vs:List Value),(∀v∈vs,v.oneCell'=true)->rU vs=vs
 |[],_=>rfl
 |v::vs,h=>by
  have hc:v.cells=#[v]:=by
   have:=h v (by simp)
   cases v<;>first|rfl|cases this
  have ih:=wM vs (fun u hu=>h u (by simp[hu]))
  unfold rU at ih ⊢
  rw[List.map_cons,List.flatten_cons,ih,hc]
  rfl
theorem yT (s:Nat):∀(vs:List Value) (k:Nat),(∀v∈vs,v.cells.size=s)->ac6 (fun i=>some (i*s,s)) k (k*s) vs
 |[],_,_=>trivial
 |v::vs,k,h=>⟨by rw[h v (by simp)],by rw[h v (by simp),<-Nat.succ_mul];exact yT s vs (k+1) (fun u hu=>h u (by simp[hu]))⟩
theorem xJ (s:Nat):∀(vs:List Value),(∀v∈vs,v.cells.size=s)->(rU vs).length=vs.length*s
 |[],_=>by simp[rU]
 |v::vs,h=>by
  have ih:=xJ s vs (fun u hu=>h u (by simp[hu]))
  have hv:=h v (by simp)
  unfold rU at ih ⊢
  rw[List.map_cons,List.flatten_cons,List.length_append,ih,Array.length_toList,hv,List.length_cons,Nat.succ_mul,Nat.add_comm]
variable {v:Value}
theorem cells_one (h:v.oneCell'=true):v.cells.size=1:=by cases v<;>first|rfl|cases h
theorem Any.VX {t len:Nat}{zs:Array Value}{parts:Array (Nat×Operand)}(vs:List Value)(hu:P.underlying t=some (.array len e))(hs:Sz P e 1)(hz:Zr P t (.agg zs))(hp:VW env parts.toList=some (AV 0 vs))
  (h1:∀v∈vs,v.oneCell'=true)(hl1:zs.size=len)(hl2:vs.length=len):Any P env n ⟨d,.build t parts,T,p,af,g⟩ (.agg vs.toArray):=
 Any.kU hu hs hz hp (by
  have hl:zs.size=vs.length:=by rw[hl1,hl2]
  have hf:=BN (fun i=>some (i*1,1)) vs 0 [] zs.toList (by simpa using yT 1 vs 0 (fun v hv=>cells_one (h1 v hv))) (by rw[wM vs h1];simp[hl])
  rw[wM vs h1]at hf
  simpa[Value.cells,hl,List.drop_of_length_le]using hf)
theorem E.MQ {fn:Func}{R:Ending->World->Prop}{t ty sz:Nat}{tb:TypeId}{cs:Array Value}(hr:fn.results=#[.cell t ty])(hv:look env t=some (.pointer (some ⟨gb,0,none⟩)))(hB:ik w gb tb cs)(hag:ky P ty sz)(hsz:cs.size=sz)
  (h:R (.returned (.agg cs)) w):E (bodyPost P fn R) n .ret env w:=fun a ha=>by
 subst hsz
 obtain⟨dd,c,e,d⟩:=hag
 exact bodyPost_ret (results_cell_row hr a.tmps w gb tb cs (0,0) dd (by simp[ha.2.2 t _ hv]) hB c (by cases dd<;>simp_all) d) ha.1 h
def Sb (w:World)(A:Option Addr)(n:Nat)(xs:List (BitVec 8)):Prop:=Sl w 1 A n (xs.map jf)
variable {w':World}{xs:List (BitVec 8)}
theorem Sb.le (h:Sb w A n xs)(hl:Le w w'):Sb w' A n xs:=Sl.le h hl
theorem Sb.len (h:Sb w A n xs):xs.length=n:=by have:=h.1;simpa using this
theorem Sb.isSome (h:Sb w A n xs)(hn:0<n):A.isSome=true:=Sl.isSome h hn (by decide)
theorem Sb.cut (h:Sb w A n xs)(cap l m:Nat)(hl:l<=m)(hm:m<=n)(hc:n<=cap):Sb w (mZ A cap l 1) (m-l) ((xs.drop l).take (m-l)):=by
 have:=Sl.yB h cap l m hl hm hc
 unfold Sb
 rwa [List.map_take,List.map_drop]
theorem Sb.uP (h:Sb w A n xs)(cap l:Nat)(hl:l<=n)(hc:n<=cap):Sb w (mZ A cap l 1) (n-l) (xs.drop l):=by
 have:=h.cut cap l n hl (Nat.le_refl _) hc
 rwa [List.take_of_length_le (by rw[List.length_drop,h.len];exact Nat.le_refl _)]at this
theorem Sb.Fy (h:Sb w A n xs)(m:Nat)(hm:m<=n):Sb w A m (xs.take m):=by
 have:=h.cut n 0 m (Nat.zero_le _) hm (Nat.le_refl _)
 rwa [zN,Nat.sub_zero,List.drop_zero]at this
theorem MR (xs:List (BitVec 8)){k:Nat}(h:k<xs.length):(xs.map jf)[k]? =some (jf (xs.getD k 0)):=by simp[h,List.getD]
theorem qo (xs:List (BitVec 32)){k:Nat}(h:k<xs.length):(xs.map jL)[k]? =some (jL (xs.getD k 0)):=by simp[h,List.getD]
theorem nJ (xs:List (BitVec 32)){k:Nat}(h:k<xs.length):(xs.map jL).toArray[k]? =some (jL (xs.getD k 0)):=by simp[h,List.getD]
theorem JB (xs:List (BitVec 8)){k:Nat}(h:k<xs.length):(xs.map jf).toArray[k]? =some (jf (xs.getD k 0)):=by simp[h,List.getD]
theorem QU (l:List (BitVec 32))(m:Nat)(z:BitVec 32){k:Nat}(h:k<l.length):((l++List.replicate m z).map jL).toArray[k]? =some (jL (l.getD k 0)):=by simp[h,List.getD,List.getElem?_append_left]
theorem Own.sb {base:Nat}(h:Own w base e 1 A n c (xs.map jf)):Sb w A n xs:=h.sl
theorem Sb.src {m:Nat}{e:TypeId}(h:Sb w A m xs)(ht:P.underlying t=some (.slice e))(c:Nat):Src P 1 t (.slice A m c) m (xs.map jf) w:=Sl.src h ht (by decide) c (rT xs)
theorem ik.sb (h:ik w gb t (xs.map jf).toArray){k:Nat}(hk:xs.length=k):Sb w (some ⟨gb,0,none⟩) k xs:=by
 have:=h.sl (s:=1) (n:=k) (by simp[hk])
 simpa[Sb]using this
theorem GV {α:Type}(f:α->Value)(l:List α)(z x:α)(N k:Nat)(hl:l.length=k)(hk:k<N):
  (((l++List.replicate (N-k) z).map f).toArray).setIfInBounds k (f x)=(((l++[x])++List.replicate (N-(k+1)) z).map f).toArray:=by
 apply Array.ext'
 rw[Array.toList_setIfInBounds]
 simp only[List.map_append,List.map_replicate]
 rw[List.set_append,if_neg (by simp[hl]),List.length_map,hl,Nat.sub_self,show N-k=(N-(k+1))+1 by omega,List.replicate_succ,List.set_cons_zero]
 simp
theorem ik.Ji {e e':TypeId}(h:ik w gb e #[v])(ht:P.underlying t=some (.slice e'))(hv:v.oneCell'=true):Src P 1 t (.slice (some ⟨gb,0,none⟩) 1 1) 1 [v] w:=
 (h.sl (s:=1) (n:=1) Z).src ht (by decide) 1 (fun u hu=>by simp at hu;subst hu;exact hv)
variable {n':Nat}
theorem oK (h:n=n'):Value.slice A n c=Value.slice A n' c:=by rw[h]
theorem int_eq {a b:Int}(h:a=b):Value.int k a=Value.int k b:=by rw[h]
theorem Own.cast {base s:Nat}{xs xs':List Value}(h:Own w base e s A n c xs)(hn:n=n')(hx:xs=xs'):Own w base e s A n' c xs':=by subst hn hx;exact h
theorem ik.cast {cs cs':Array Value}(h:ik w gb t cs)(hc:cs=cs'):ik w gb t cs':=hc▸h
theorem Sb.cast {xs':List (BitVec 8)}(h:Sb w A n xs)(hn:n=n')(hx:xs=xs'):Sb w A n' xs':=by subst hn hx;exact h
theorem Sb.ch {r:Option Nat}(h:Sb w A n xs)(hc:Ch w w' r)(hne:∀g,r=some g->lN A≠some g):Sb w' A n xs:=Sl.ch h hc hne
def Parts (w:World)(vs:List Value)(ps:List (List (BitVec 8))):Prop:=vs.length=ps.length/\∀(i:Nat) (v:Value) (q:List (BitVec 8)),vs[i]? =some v->ps[i]? =some q->∃A c,v=Value.slice A q.length c/\Sb w A q.length q
variable {vs:List Value}
theorem Parts.le {ps:List (List (BitVec 8))}(h:Parts w vs ps)(hl:Le w w'):Parts w' vs ps:=
 ⟨h.1,fun i v q d f=>let⟨A,c,e,hs⟩:=h.2 i v q d f;⟨A,c,e,hs.le hl⟩⟩
theorem Parts.nil (w:World):Parts w [] []:=⟨rfl,fun i v q h=>by simp at h⟩
theorem Parts.cons {ps:List (List (BitVec 8))}{A:Option Addr}{n c:Nat}{q:List (BitVec 8)}(hs:Sb w A n q)(h:Parts w vs ps):Parts w (Value.slice A n c::vs) (q::ps):=by
 have hn:q.length=n:=hs.len
 subst hn
 refine⟨by simp[h.1],fun i v r d e=>?_⟩
 cases i with
 |zero=>simp at d e;subst d e;exact⟨A,c,rfl,hs⟩
 |succ i=>exact h.2 i v r (by simpa using d) (by simpa using e)
theorem rG {dd:TypeDesc}(h:P.underlying t=some dd):(P.underlying t).isSome=true:=by rw[h];rfl
end
section
variable {P:Program}
def yU (P:Program)(d:Nat)(t:TypeId)(x y:Value)(b:Bool):Prop:=∀w:World,(Op.equalIn d t x y).run P w= .ok b w
variable {d:Nat}{t:TypeId}
theorem yU.int {k:IntKind}(a b:Int)(h:P.underlying t=some (.int k)):yU P (d+1) t (.int k a) (.int k b) (decide (a=b)):=fun w=>by
 rw[run_equalIn_int w d t k k a b h];rfl
theorem yU.bool (a b:Bool)(h:P.underlying t=some .bool):yU P (d+1) t (.bool a) (.bool b) (a==b):=fun w=>run_equalIn_bool w d t a b h
theorem yU.u8 (a b:BitVec 8)(h:P.underlying t=some (.int .u8)):yU P (d+1) t (jf a) (jf b) (decide (a=b)):=fun w=>by
 have:=yU.int (d:=d) (a.toNat:Int) (b.toNat:Int) h w
 rw[show decide ((a.toNat:Int)=(b.toNat:Int))=decide (a=b)from decide_eq_decide.2 ⟨fun h=>BitVec.eq_of_toNat_eq (by omega),fun h=>by rw[h]⟩]at this
 exact this
theorem BO (body:Nat->Sem Bool)(r:Nat->Bool):∀(l:List Nat) (w:World),(∀i∈l,∀w,(body i).run P w= .ok (r i) w)->
  (forIn (m:=Sem) l ((none,()):Option Bool×Unit) fun i _=>do
   let q <-body i
   if(!q)=true then pure (ForInStep.done (some false,()))else pure (ForInStep.yield (none,()))).run P w= .ok (if l.all r then(none,())else(some false,())) w
 |[],w,_=>by simp
 |i::l,w,h=>by
  have ih:=BO body r l w (fun j hj=>h j (by simp[hj]))
  simp only[List.forIn_cons,Sem.run_bind,h i (by simp) w,Result.andThen_ok]
  cases hr:r i
  ·simp[hr]
  ·simp only[Bool.not_true,Bool.false_eq_true,if_false,Sem.run_pure,Result.andThen_ok,List.all_cons,hr,Bool.true_and]
   exact ih
variable {e s:Nat}{xs ys:Array Value}
theorem yU.arr {t len:Nat}(r:Nat->Bool)(a b:Nat->Value)(hu:P.underlying t=some (.array len e))(hs:Sz P e s)(ha:∀i,i<len->∀w,(part e xs (i*s)).run P w= .ok (a i) w)
  (hb:∀i,i<len->∀w,(part e ys (i*s)).run P w= .ok (b i) w)(hr:∀i,i<len->yU P d e (a i) (b i) (r i)):yU P (d+1) t (.agg xs) (.agg ys) ((List.range len).all r):=fun w=>by
 simp only[Op.equalIn,Sem.run_bind,run_underlying hu,Result.andThen_ok,hs.run,Std.Legacy.Range.forIn_eq_forIn_range']
 have h:=BO (P:=P) (fun i=>do let x <-part e xs (i*s);let y <-part e ys (i*s);Op.equalIn d e x y) r (List.range len) w (fun i hi w=>by
  have hi':i<len:=by simpa using hi
  simp[ha i hi' w,hb i hi' w,hr i hi' w])
 have e1:List.range' ([:len]:Std.Legacy.Range).start ([:len]:Std.Legacy.Range).size ([:len]:Std.Legacy.Range).step=List.range len:=by
  simp[Std.Legacy.Range.size,List.range_eq_range']
 rw[e1]
 have h':(forIn (m:=Sem) (List.range len) ((none,()):Option Bool×Unit) fun i _=>do
   let x <-part e xs (i*s)
   let y <-part e ys (i*s)
   let q <-Op.equalIn d e x y
   if(!q)=true then pure (ForInStep.done (some false,()))else pure (ForInStep.yield (none,()))).run P w= .ok (if(List.range len).all r then(none,())else(some false,())) w:=by
  rw[<-h]
  congr 2
  funext i _
  simp only[bind_assoc]
 rw[h']
 cases(List.range len).all r<;>simp
variable {o:Nat}{v:Value}
theorem kR (he:mY P e)(hv:xs[o]? =some v)(w:World):(part e xs o).run P w= .ok v w:=by simp[part,he.run,hv]
theorem all_range_eq (xs ys:List (BitVec 8))(len:Nat)(hx:xs.length=len)(hy:ys.length=len):((List.range len).all fun i=>decide (xs.getD i 0=ys.getD i 0))=decide (xs=ys):=by
 rw[Bool.eq_iff_iff]
 simp only[List.all_eq_true,List.mem_range,decide_eq_true_eq]
 constructor
 ·intro h
  apply List.ext_getElem (by omega)
  intro i c d
  have:=h i (by omega)
  simpa[List.getD,c,d]using this
 ·rintro rfl i _;rfl
theorem yU.bytes {t len:Nat}(xs ys:List (BitVec 8))(hu:P.underlying t=some (.array len e))(hs:Sz P e 1)(he:P.underlying e=some (.int .u8))(hx:xs.length=len)(hy:ys.length=len):
  yU P (d+2) t (.agg (xs.map jf).toArray) (.agg (ys.map jf).toArray) (decide (xs=ys)):=by
 rw[<-all_range_eq xs ys len hx hy]
 have hna:mY P e:=⟨_,he,rfl⟩
 exact yU.arr _ (fun i=>jf (xs.getD i 0)) (fun i=>jf (ys.getD i 0)) hu hs (fun i hi w=>kR hna (by rw[Nat.mul_one];exact JB xs (by omega)) w) (fun i hi w=>kR hna (by rw[Nat.mul_one];exact JB ys (by omega)) w)
  (fun i _=>yU.u8 _ _ he)
variable {env:Env}{n:Nat}{d:Option Nat}{T:TypeId}{p:String}{af:Array Edge}{g:Option (Nat×Bool)}{w:World}{K:Value->World->Prop}{ty:TypeId}{x y:Operand}
theorem Any.eqA {b:Bool}(hm:P.eqGuardType P.depth t=false)(hx:ev env x=some (.agg xs))(hy:ev env y=some (.agg ys))(hb:yU P 10000 t (.agg xs) (.agg ys) b):
 Any P env n ⟨d,.binOp .eql t x y ty,T,p,af,g⟩ (.bool b):= .bin hx hy (fun w=>run_eqGuard_agg w .eql t x y xs ys hm) fun w=>by rw[run_eql_struct,hb w];rfl
theorem Any.neA {b:Bool}(hm:P.eqGuardType P.depth t=false)(hx:ev env x=some (.agg xs))(hy:ev env y=some (.agg ys))(hb:yU P 10000 t (.agg xs) (.agg ys) b):
 Any P env n ⟨d,.binOp .neq t x y ty,T,p,af,g⟩ (.bool (!b)):= .bin hx hy (fun w=>run_eqGuard_agg w .neq t x y xs ys hm) fun w=>by rw[run_neq_struct,hb w];rfl
theorem Any.dec {o:Oper}{b v:Bool}(h:Any P env n o (.bool b))(hb:b=v):Any P env n o (.bool v):=hb▸h
theorem Rd.dec {o:Oper}{b v:Bool}(h:Rd P w env n o (.bool b))(hb:b=v):Rd P w env n o (.bool v):=hb▸h
theorem Ef.lQ {t b len:Nat}{z:Value}{parts:Array (Nat×Operand)}(vs:List Value)(ht:P.underlying t=some (.slice e))(hel:El P e 1 b z)(hp:VW env parts.toList=some (AV 0 vs))(h1:∀v∈vs,v.oneCell'=true)(hl:vs.length=len)(hlen:len<=16777216)(hpos:0<len)
  (h:∀gb w',w.heap.size<=gb->ik w' gb e vs.toArray->Le w w'->K (.slice (some ⟨gb,0,none⟩) len len) w'):Ef P env n ⟨d,.buildSlice t len parts,T,p,af,g⟩ w K:=by
 have hzs:∃z0,z.cells=#[z0]:=by
  obtain⟨i,_,_,_,_,hz,_⟩:=hel
  exact Array.size_eq_one_iff.1 hz
 obtain⟨z0,c⟩:=hzs
 have hf:=BN (fun i=>some (i*1,1)) vs 0 [] (List.replicate len z0) (by simpa using yT 1 vs 0 (fun v hv=>cells_one (h1 v hv))) (by rw[wM vs h1];simp[hl])
 rw[wM vs h1]at hf
 have hd:(List.replicate len z0).drop vs.length=[]:=List.drop_of_length_le (by simp[hl])
 rw[hd,List.append_nil,List.nil_append,List.nil_append]at hf
 have hz:((Array.range (len*1)).map (fun x=>(#[z0]:Array Value)[x%1]!))=(List.replicate len z0).toArray:=by
  apply Array.ext'
  apply List.ext_getElem (by simp)
  intro i h1 j
  simp[Nat.mod_one]
 refine .of_run (v:= .slice (some ⟨w.heap.size,0,none⟩) len len) (w':=w.alloc (.cells vs.toArray e)) (fun a ha=>?_) (h _ _ (Nat.le_refl _) (ik.new w e _) (Le.alloc w _))
 have hparts:parts.map (fun(i,x)=>(i,a.eval x))=(AV 0 vs).toArray:=by rw[<-ha.BL hp];apply Array.ext';simp
 have f:¬(len*1=0):=by omega
 have hbig:¬(len*1>2^24):=by omega
 simp only[execOp,Instr.buildSlice,Sem.run_bind,run_underlying ht,Result.andThen_ok,hel.sz.run,hparts,newRow]
 rw[if_neg hbig,if_neg f]
 simp only[Sem.run_bind,Sem.run_pure,Result.andThen_ok,hel.zr.run,c]
 rw[show(#[z0]:Array Value).size=1 from Z,hz,hf]
 simp
theorem Ef.yV {f:Operand}{BK:FuncId}{tL:Array Value}{args:Array Operand}{ats:Array TypeId}{vs:List Value}{all:Array Value}{R:Ending->World->Prop}(hgo:o8 P BK)(hf:ev env f=some (.func (.func BK) #[] tL))(ha:evs env args.toList=some vs)(ahe:vs.toArray++tL=all)
  (hc:Calls P BK all w R)(h:∀e w',R e w'->∃v,e= .returned v/\K v w'):Ef P env n ⟨d,.call ⟨.value f,args,ats⟩,T,p,af,g⟩ w K:=by
 subst ahe
 exact Ef.aeJ hgo hf ha hc h
variable {m:Nat}
theorem Ef.copy {t tx:Nat}{gb dl dc:Nat}{tb:TypeId}{cs:Array Value}{news:List Value}(ht:P.underlying t=some (.slice e))(hs:Sz P e s)(hx:ev env x=some (.slice (some ⟨gb,o,none⟩) dl dc))(hB:ik w gb tb cs)
  (hy:ev env y=some v)(hS:Src P s tx v m news w)(hm:m<=dl)(hfit:o+news.length<=cs.size)
  (h:∀w',ik w' gb tb (cs.toList.take o++news++cs.toList.drop (o+news.length)).toArray->Ch w w' (some gb)->K (J (m:Int)) w'):
  Ef P env n ⟨d,.call ⟨.builtin .copy,#[x,y],#[t,tx]⟩,T,p,af,g⟩ w K:=by
 have hst:=run_storeCells_at P gb o tb news 0 cs w hB (by simpa using hfit) hS.one
 simp only[Nat.add_zero]at hst
 refine .of_run (w':=w.setRow gb (cs.toList.take o++news++cs.toList.drop (o+news.length)).toArray) (fun a ha=>?_) (h _ (setRow_heap w gb cs _ tb (0,0) hB) ⟨rfl,rfl,rfl,by simp,fun k _ hk=>setRow_other w gb k _ (fun e=>hk (by simp[e]))⟩)
 have hmin:Nat.min m dl=m:=Nat.min_eq_left hm
 simp[execOp,resolve,invoke,builtin,ha.eval hx,ha.eval hy,Builtin.copy_,run_underlying ht,hs.run,hS.len,hmin,hS.cells,hst,goInt]
def Ks (w:World)(k:Nat)(A:Option Addr)(m:Nat)(keys:List (List (BitVec 8))):Prop:=keys.length=m/\(∀q∈keys,q.length=k)/\Sl w k A m (keys.map fun q=>q.map jf).flatten
theorem Ks.le {w':World}{k:Nat}{A:Option Addr}{keys:List (List (BitVec 8))}(h:Ks w k A m keys)(hl:Le w w'):Ks w' k A m keys:=⟨h.1,h.2.1,h.2.2.le hl⟩
theorem Ef.iw {t b len:Nat}{z:Value}{parts:Array (Nat×Operand)}(vs:List Value)(ht:P.underlying t=some (.slice e))(hel:El P e s b z)(hp:VW env parts.toList=some (AV 0 vs))(h1:∀v∈vs,v.cells.size=s)(hl:vs.length=len)(hlen:len*s<=16777216)(hpos:0<len)
  (h:∀gb w',w.heap.size<=gb->ik w' gb e (rU vs).toArray->Le w w'->K (.slice (some ⟨gb,0,none⟩) len len) w'):Ef P env n ⟨d,.buildSlice t len parts,T,p,af,g⟩ w K:=by
 have c:0<s:=by obtain⟨i,_,_,_,_,_,f⟩:=hel;exact f
 have hfl:(rU vs).length=len*s:=by rw[xJ s vs h1,hl]
 have hmap:((Array.range (len*s)).map (fun x=>z.cells[x%z.cells.size]!)).size=len*s:=by simp
 obtain⟨zl,hzl⟩:∃zl:List Value,((Array.range (len*s)).map (fun x=>z.cells[x%z.cells.size]!))=zl.toArray:=⟨_,(Array.toArray_toList).symm⟩
 have aiy:zl.length=len*s:=by rw[hzl]at hmap;simpa using hmap
 have hf:=BN (fun i=>some (i*s,s)) vs 0 [] zl (by simpa using yT s vs 0 h1) (by omega)
 have hd:zl.drop (rU vs).length=[]:=List.drop_of_length_le (by omega)
 rw[hd,List.append_nil,List.nil_append,List.nil_append]at hf
 refine .of_run (v:= .slice (some ⟨w.heap.size,0,none⟩) len len) (w':=w.alloc (.cells (rU vs).toArray e)) (fun a ha=>?_) (h _ _ (Nat.le_refl _) (ik.new w e _) (Le.alloc w _))
 have hparts:parts.map (fun(i,x)=>(i,a.eval x))=(AV 0 vs).toArray:=by rw[<-ha.BL hp];apply Array.ext';simp
 have j:¬(len*s=0):=by have:=Nat.mul_pos hpos c;omega
 have hbig:¬(len*s>2^24):=by omega
 simp only[execOp,Instr.buildSlice,Sem.run_bind,run_underlying ht,Result.andThen_ok,hel.sz.run,hparts,newRow]
 rw[if_neg hbig,if_neg j]
 simp only[Sem.run_bind,Sem.run_pure,Result.andThen_ok,hel.zr.run]
 rw[hzl,hf]
 simp
variable {Q:Exit->Act->World->Prop}
theorem WC.scope {c:Code}(h:WC P (Exit.noGoto Q) n c env w):WC P Q n (.scope c) env w:=fun a ha=>wp_scope_straight (h a ha)
theorem E.scR (h:E Q n .ret env w):E (Exit.noGoto Q) n .ret env w:=h
end
end Go.Sx
