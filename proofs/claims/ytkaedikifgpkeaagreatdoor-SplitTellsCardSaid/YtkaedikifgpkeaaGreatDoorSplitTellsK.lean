/- SplitTells: for every input the law answers true and leaves its arguments as they were. -/
import Derived.Test.YtkaedikifgpkeaaGreatDoorSplitTellsJ
import Derived.Laws.Concat
set_option linter.unusedVariables false
set_option linter.unusedSimpArgs false
namespace Go.Sx
variable {P:Program}{n:Nat}
section
variable {env:Env}{d:Option Nat}{T:TypeId}{p:String}{af:Array Edge}{g:Option (Nat×Bool)}
theorem Any.Ka {t ty:TypeId}{x y:Operand}{a b:List UInt8}(hx:ev env x=some (.string ⟨a.toArray⟩))(hy:ev env y=some (.string ⟨b.toArray⟩))(ha:a.length<=1000000)(hb:b.length<=1000000):
    Any P env n ⟨d,.binOp .add t x y ty,T,p,af,g⟩ (.string ⟨(a++b).toArray⟩):=
  .bin hx hy (fun w=>rfl) fun w=>run_string_add_lists w a b (by omega) (by omega)
theorem Any.PN {t ty:TypeId}{x y:Operand}{a b:List UInt8}(hx:ev env x=some (.string ⟨a.toArray⟩))(hy:ev env y=some (.string ⟨b.toArray⟩))(hab:a=b):
    Any P env n ⟨d,.binOp .eql t x y ty,T,p,af,g⟩ (.bool true):=by
  subst hab
  have h:=Any.We (P:=P) (n:=n) (d:=d) (T:=T) (p:=p) (af:=af) (g:=g) (t:=t) (ty:=ty) hx hy
  rw[beq_self_eq_true]at h
  exact h
theorem Any.Wq {t ty:TypeId}{x y:Operand}{i j:Int}(a b c:Nat)(hx:ev env x=some (.int .u32 i))(hi:i=(a:Int))(hy:ev env y=some (.int .u32 j))(hj:j=(b:Int))(ha:a<4294967296)(hb:b<4294967296)(hc:a&&&b=c):
    Any P env n ⟨d,.binOp .and t x y ty,T,p,af,g⟩ (.int .u32 (c:Int)):=
  .int hx hy fun w=>by
    subst hi hj hc
    have hlt:a&&&b<2^32:=Nat.and_lt_two_pow _ (by omega)
    have h:IntKind.u32.wrap (((BitVec.ofInt 32 (a:Int)&&&BitVec.ofInt 32 (b:Int)).toNat:Nat):Int)=((a&&&b:Nat):Int):=by
      rw[BitVec.toNat_and,qJ a ha,qJ b hb,wrap_u32];omega
    simp only[binOp,Op.intBits,IntKind.bits,ne_eq,not_true_eq_false,if_false]
    exact congrArg (fun i=>Result.ok (Value.int .u32 i) w) h
theorem and1 (i:Int)(h: -9223372036854775808<=i/\i<=9223372036854775807):(BitVec.ofInt 64 i&&&BitVec.ofInt 64 1).toNat=(i%2).toNat:=by
  have e:(BitVec.ofInt 64 i).toNat=(i%18446744073709551616).toNat:=by rw[BitVec.toNat_ofInt];rfl
  have b:(BitVec.ofInt 64 1).toNat=2^1-1:=by decide
  rw[BitVec.toNat_and,e,b,Nat.and_two_pow_sub_one_eq_mod]
  omega
theorem Any.and1 {t ty:TypeId}{x y:Operand}{i:Int}(hx:ev env x=some (.int .i64 i))(hy:ev env y=some (.int .i64 1))(h: -9223372036854775808<=i/\i<=9223372036854775807):
    Any P env n ⟨d,.binOp .and t x y ty,T,p,af,g⟩ (.int .i64 (i%2)):= .int hx hy fun w=>by
  have b:IntKind.i64.wrap (((BitVec.ofInt 64 i&&&BitVec.ofInt 64 1).toNat:Nat):Int)=i%2:=by
    rw[Go.Sx.and1 i h,show(((i%2).toNat:Nat):Int)=i%2 by omega];exact IntWalk.i64_in _ (by omega)
  simp only[binOp,Op.intBits,IntKind.bits,ne_eq,not_true_eq_false,if_false]
  exact congrArg (fun i=>Result.ok (Value.int .i64 i) w) b
theorem eU.lV {α:Type}{w:World}{base e s g t:Nat}{f:α->List Value}{A:Option Addr}{k c:Nat}{xs:List α}{cs:Array Value}(hO:eU w base e f s A k c xs)(hB:fA w g t cs)(hne:e≠t):rowOf A c≠some g:=fun he=>by
  rcases hO.2.2 with⟨rfl,rfl⟩|⟨g',cur,rfl,hb,hh,hnc,hcm,hcs,htake⟩
  · rw[iL]at he;cases he
  · have d:=mg he
    subst d
    have b:w.heap[g]? =_:=hB
    rw[hh]at b
    injection b with h3
    injection h3 with _ h4 _
    exact hne h4
end
end Go.Sx

