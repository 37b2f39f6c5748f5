/- LedgerSides: for every input the law answers true and leaves its arguments as they were. -/
import Derived.Test.YtkpmaajniagncaaGreatDoorLedgerSidesM
import Derived.Laws.Concat
set_option linter.defProp false
set_option linter.unusedVariables false
set_option linter.unusedSimpArgs false
namespace Go.Sx
variable {P:Program}{n:Nat}
section
variable {env:Env}{d:Option Nat}{T:TypeId}{p:String}{af:Array Edge}{g:Option (Nat×Bool)}
theorem aaR {a b:Int}(hb:1<=b):(0<=a->0<=a.tmod b/\a.tmod b<b)/\(a<0->a.tmod b<=0/\ -b<a.tmod b):=by
 have c:=Int.emod_nonneg a (show b≠0 by omega)
 have d:=Int.emod_lt_of_pos a (show 0<b by omega)
 have e:=Int.emod_nonneg (-a) (show b≠0 by omega)
 have f:=Int.emod_lt_of_pos (-a) (show 0<b by omega)
 rw[tmod_eq_if]
 split<;>constructor<;>intro h<;>omega
theorem Any.agw {t ty:TypeId}{x y:Operand}{a b:Int}(hx:ev env x=some (J a))(hy:ev env y=some (J b))(hb:1<=b/\b<=9223372036854775807):
  Any P env n ⟨d,.binOp .rem t x y ty,T,p,af,g⟩ (J (a.tmod b)):= .int hx hy fun w=>by
 have c:b≠0:=by omega
 have f:=aaR (a:=a) hb.1
 have e:IntKind.i64.wrap (a.tmod b)=a.tmod b:=IntWalk.i64_in _ (by omega)
 simp[binOp,Op.intDiv,c,e]
theorem iy.kV {α:Type}{w:World}{base e s g t:Nat}{f:α->List Value}{A:Option Addr}{k c:Nat}{xs:List α}{cs:Array Value}(hO:iy w base e f s A k c xs)(hB:ik w g t cs)(hne:e≠t):rowOf A c≠some g:=fun he=>by
 rcases hO.2.2 with⟨rfl,rfl⟩|⟨g',cur,rfl,hb,hh,hnc,hcm,hcs,htake⟩
 ·rw[jI]at he;cases he
 ·have i:=ru he
  subst i
  have d:w.heap[g]? =_:=hB
  rw[hh]at d
  injection d with h3
  injection h3 with _ h4 _
  exact hne h4
end
end Go.Sx
